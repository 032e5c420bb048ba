/- Functions of the program as functional programs; the code computes them. -/
import Derived.Test.YtfdhaigfonolpaaBk11
namespace Go.Proofs.Ytfdhaigfonolpaa
open Go.Ab Go.Rp
attribute [-simp] List.all_eq_true Array.all_toList Array.all_eq_true
noncomputable def d3 (N : Nat) (a0 : (List (List Int))) (a1 : (List ByteArray)) (a2 : (List (List S71))) : Option Bool :=
 (d4 N ).bind fun r1 =>
 ocase r1 (
  some false
 ) fun r1o =>
 Option.bind (α := Bool) (
  (d6 N ).bind fun r8 =>
  (d5 N r1o 3 (ByteArray.mk #[97]) r8).bind fun r9 =>
  if (r9.2 != 0) then (
   some true
  ) else
  (d6 N ).bind fun r11 =>
  (d5 N r9.1 3 (ByteArray.mk #[97]) r11).bind fun r12 =>
  some (r12.2 != 6)
 ) fun (v7 : Bool) =>
 if v7 = true then (
  some false
 ) else
 (d4 N ).bind fun r14 =>
 ocase r14 (
  bindO (β := Unit) (ρ := Bool) (
   iterN (σ := Unit) (ρ := (Out Unit Bool)) (fun (_ : Unit) =>
    if 0 < (a0.length : Int) then (
     (idx a0 0).bind fun x64 =>
     (d7 N x64 1).bind fun _r65 =>
     (d7 N x64 2).bind fun r66 =>
     (d8 N a1 r66).bind fun _r67 =>
     (d7 N x64 3).bind fun r68 =>
     (d9 N a2 r68).bind fun _r69 =>
     (d7 N x64 0).bind fun r70 =>
     bindO (β := Unit) (ρ := (Unit ⊕ (Out Unit Bool))) (
      if (r70 == 1) then (
       none
      ) else
      if (r70 == 2) then (
       none
      ) else
      if (r70 == 3) then (
       none
      ) else
      if (r70 == 4) then (
       none
      ) else
      some (.go ())
     ) fun (_ : Unit) =>
     none
    ) else
    some (.inr (.go ()))
   ) N ()
  ) fun (_ : Unit) =>
  some true
 ) fun r14o =>
 bindO (β := Unit) (ρ := Bool) (
  iterN (σ := ((List S76) × (List Int) × (List S64) × (List S73) × Int × (List S35) × (List S46) × Int × Int)) (ρ := (Out Unit Bool)) (fun ((l289,l290,l291,l292,v293,l295,l296,v297,v298) : ((List S76) × (List Int) × (List S64) × (List S73) × Int × (List S35) × (List S46) × Int × Int)) =>
   if v298 < (a0.length : Int) then (
    (idx a0 v298).bind fun x732 =>
    (d7 N x732 1).bind fun r734 =>
    (d7 N x732 2).bind fun r735 =>
    (d8 N a1 r735).bind fun r736 =>
    (d7 N x732 3).bind fun r737 =>
    (d9 N a2 r737).bind fun r738 =>
    (d7 N x732 0).bind fun r739 =>
    bindO (β := ((List S76) × (List Int) × (List S64) × (List S73) × Int × (List S35) × (List S46) × Int × Int × Int)) (ρ := (((List S76) × (List Int) × (List S64) × (List S73) × Int × (List S35) × (List S46) × Int × Int) ⊕ (Out Unit Bool))) (
     if (r739 == 1) then (
      (d5 N (S68.mk l289 l290 l291 l292 v293) r734 r736 r738).bind fun r840 =>
      (d10 N (S39.mk l295 l296 v297)).bind fun r841 =>
      if r734 ≤ r841.2 then (
       some (.go (r840.1.records,r840.1.refs,r840.1.backups,r840.1.changes,r840.1.earliest,r841.1.Backups,r841.1.Changes,r841.1.Earliest,r840.2,6))
      ) else
      Option.bind (α := Bool) (
       if r734 > 1099511627776 then (
        some true
       ) else
       if (r736.size : Int) > 24 then (
        some true
       ) else
       some (decide ((r738.length : Int) > 6))
      ) fun (v845 : Bool) =>
      if v845 = true then (
       some (.go (r840.1.records,r840.1.refs,r840.1.backups,r840.1.changes,r840.1.earliest,r841.1.Backups,r841.1.Changes,r841.1.Earliest,r840.2,2))
      ) else
      if (r841.1.Changes.length : Int) ≥ 200 then (
       some (.go (r840.1.records,r840.1.refs,r840.1.backups,r840.1.changes,r840.1.earliest,r841.1.Backups,r841.1.Changes,r841.1.Earliest,r840.2,18))
      ) else
      (appL 48 r841.1.Changes [(S46.mk r734 r736 r738)]).bind fun _l850 =>
      some (.go (r840.1.records,r840.1.refs,r840.1.backups,r840.1.changes,r840.1.earliest,r841.1.Backups,(r841.1.Changes ++ [(S46.mk r734 r736 r738)]),r841.1.Earliest,r840.2,0))
     ) else
     if (r739 == 2) then (
      (d11 N (S68.mk l289 l290 l291 l292 v293) r734).bind fun r852 =>
      (d12 N (S39.mk l295 l296 v297) r734).bind fun r853 =>
      (d10 N r853.1).bind fun r854 =>
      if r734 ≤ r854.2 then (
       if (r852.2.1 != 0) then (
        some (.ret (.inr (.ret false)))
       ) else
       some (.go (r852.1.records,r852.1.refs,r852.1.backups,r852.1.changes,r852.1.earliest,r854.1.Backups,r854.1.Changes,r854.1.Earliest,r852.2.2,6))
      ) else
      if r734 > 1099511627776 then (
       if (r852.2.1 != 0) then (
        some (.ret (.inr (.ret false)))
       ) else
       some (.go (r852.1.records,r852.1.refs,r852.1.backups,r852.1.changes,r852.1.earliest,r854.1.Backups,r854.1.Changes,r854.1.Earliest,r852.2.2,2))
      ) else
      Option.bind (α := Bool) (
       if (r854.1.Backups.length : Int) ≥ 20 then (
        some true
       ) else
       some (decide ((r853.2.length : Int) > 40))
      ) fun (v860 : Bool) =>
      if v860 = true then (
       if (r852.2.1 != 0) then (
        some (.ret (.inr (.ret false)))
       ) else
       some (.go (r852.1.records,r852.1.refs,r852.1.backups,r852.1.changes,r852.1.earliest,r854.1.Backups,r854.1.Changes,r854.1.Earliest,r852.2.2,18))
      ) else
      (d13 N r854.1 r853.2).bind fun r864 =>
      (appL 16 r864.1.Backups [(S35.mk r734 r853.2)]).bind fun _l866 =>
      if (r852.2.1 != r864.2) then (
       some (.ret (.inr (.ret false)))
      ) else
      some (.go (r852.1.records,r852.1.refs,r852.1.backups,r852.1.changes,r852.1.earliest,(r864.1.Backups ++ [(S35.mk r734 r853.2)]),r864.1.Changes,r864.1.Earliest,r852.2.2,0))
     ) else
     if (r739 == 3) then (
      (d14 N (S68.mk l289 l290 l291 l292 v293) r734).bind fun r869 =>
      Option.bind (α := Bool) (
       if r734 ≥ 0 then (
        some (decide (r734 ≤ 1099511627776))
       ) else
       some false
      ) fun (v871 : Bool) =>
      if v871 = true then (
       Option.bind (α := List S35) (
        iterN (σ := List S35) (ρ := List S35) (fun (l884 : List S35) =>
         Option.bind (α := Bool) (
          if (l884.length : Int) > 1 then (
           (idx l884 1).bind fun x911 =>
           some (decide (x911.Time ≤ r734))
          ) else
          some false
         ) fun (v909 : Bool) =>
         if v909 = true then (
          (natI 1 l884.length).bind fun n913 =>
          letv (l884.drop n913) fun l914 =>
          some (.inl l914)
         ) else
         some (.inr l884)
        ) N l295
       ) fun (l906 : List S35) =>
       (idx l906 0).bind fun x916 =>
       (d16 N l296).bind fun r917 =>
       (d15 N r917 (fun b0 => d17 N b0 x916.Time)).bind fun r918 =>
       some (.go (r869.1.records,r869.1.refs,r869.1.backups,r869.1.changes,r869.1.earliest,l906,r918,x916.Time,r869.2,0))
      ) else
      some (.go (r869.1.records,r869.1.refs,r869.1.backups,r869.1.changes,r869.1.earliest,l295,l296,v297,r869.2,1))
     ) else
     if (r739 == 4) then (
      (d18 N (S68.mk l289 l290 l291 l292 v293) r734).bind fun r920 =>
      if r734 < v297 then (
       if ((r920.2.1.length : Int) != 0) then (
        some (.ret (.inr (.ret false)))
       ) else
       some (.go (r920.1.records,r920.1.refs,r920.1.backups,r920.1.changes,r920.1.earliest,l295,l296,v297,r920.2.2,21))
      ) else
      (d12 N (S39.mk l295 l296 v297) r734).bind fun r923 =>
      (d20 N r923.2).bind fun r924 =>
      (d19 N r920.2.1 r924).bind fun r925 =>
      if (!r925) = true then (
       some (.ret (.inr (.ret false)))
      ) else
      some (.go (r920.1.records,r920.1.refs,r920.1.backups,r920.1.changes,r920.1.earliest,r923.1.Backups,r923.1.Changes,r923.1.Earliest,r920.2.2,0))
     ) else
     some (.go (l289,l290,l291,l292,v293,l295,l296,v297,0,0))
    ) fun ((l828,l829,l830,l831,v832,l834,l835,v836,v837,v838) : ((List S76) × (List Int) × (List S64) × (List S73) × Int × (List S35) × (List S46) × Int × Int × Int)) =>
    (d21 N (S68.mk l828 l829 l830 l831 v832)).bind fun r927 =>
    Option.bind (α := ((List S35) × (List S46) × Int × Bool)) (
     if (v837 != v838) then (
      some (l834,l835,v836,true)
     ) else
     if (r927.1 != (l834.length : Int)) then (
      some (l834,l835,v836,true)
     ) else
     (d22 N (S39.mk l834 l835 v836)).bind fun r938 =>
     if (r927.2.1 != r938.2) then (
      some (r938.1.Backups,r938.1.Changes,r938.1.Earliest,true)
     ) else
     some (r938.1.Backups,r938.1.Changes,r938.1.Earliest,(r927.2.2 != (r938.1.Changes.length : Int)))
    ) fun ((l932,l933,v934,v935) : ((List S35) × (List S46) × Int × Bool)) =>
    if v935 = true then (
     some (.inr (.ret false))
    ) else
    (chkI (v298 + 1)).bind fun v941 =>
    some (.inl (l828,l829,l830,l831,v832,l932,l933,v934,v941))
   ) else
   some (.inr (.go ()))
  ) N (r14o.records,r14o.refs,r14o.backups,r14o.changes,r14o.earliest,([(S35.mk 0 [])] : List S35),([] : List S46),0,0)
 ) fun (_ : Unit) =>
 some true
set_option maxRecDepth 100000 in
set_option maxHeartbeats 4000000 in
theorem p3 (N : Nat) (a0 : (List (List Int))) (a1 : (List ByteArray)) (a2 : (List (List S71))) (r : Bool) (h : d3 N a0 a1 a2 = some r) : FunC Try.prog 3 [.lsi a0,.ss a1,.ls71 a2] (.b r) := by
 unfold d3 at h
 refine FunC.enter 272 [(0,.lsi a0),(1,.ss a1),(2,.ls71 a2)] (by simp) Try.func3 rfl (of_decide_eq_true rfl) rfl rfl ?_
 refine .seqR ?_
 refine .rr 1 ?_
 refine .tt (L45 a0 a1 a2) [] (.nil (.seq (.seqR ?_)))
 replace h := bsome h;obtain ⟨r1,hr1,h⟩ := h
 have Fr1 := p4 N  r1 hr1
 rcases osome h with ⟨hr1o,h⟩ | ⟨r1o,hr1o,h⟩
 ·simp only [hr1o,List.append_nil] at Fr1
  refine .callF Fr1 [] [] [] [] (.d (.lit (.pointer none))) (by simp) rfl (by simp <;> rfl) (by simp) (by simp) (by simp) (by simp) (by simp) ent4 (by simp) (by simp) (by simp) (by simp) (by simp) (by simp) ?_
  refine .st (mk 272 [] (L45 a0 a1 a2 ++ [(25,.d (.lit (.pointer none)))]) []) ?_
  refine .rr 1 ?_
  refine .tt (L45 a0 a1 a2 ++ [(7,.d (.lit (.pointer none)))]) [] (.nil (.seqR ?_))
  refine .rr 14 ?_
  refine .tt (L45 a0 a1 a2 ++ [(39,.b true)]) [] (.nil ?_)
  refine .condK fun K1 K2 k1 k2 => ?_;simp;refine k1 ?_;clear k1 k2 K1 K2
  refine .seqR ?_
  refine .rr 1 ?_
  refine .tt [(6,.b false)] [] (.nil (.ret ?_))
  cases h
  refine thenQ_ps ?_
  exact FinC.rs
 simp only [hr1o,List.nil_append] at Fr1
 refine .callF Fr1 [] [] [(1000,25),(25000,5500),(25001,5501),(25002,5502),(25003,5503)] [(25,(.box [.ref 5500 0 r1o.records.length,.ref 5501 0 r1o.refs.length,.ref 5502 0 r1o.backups.length,.ref 5503 0 r1o.changes.length,.d (.lit (.int .i64 r1o.earliest))])),(5500,(.arr 76 2 (r1o.records.map cS76))),(5501,(.arr 3 1 (r1o.refs.map (cI .i64)))),(5502,(.arr 64 2 (r1o.backups.map cS64))),(5503,(.arr 73 3 (r1o.changes.map cS73)))] (.ptr 25 0 0) (by simp) rfl (by simp <;> rfl) (by simp) (by simp) (by simp) (by simp) (by simp) ent4 (by simp) (by simp) (by simp) (by simp) (by simp) (by simp) ?_
 refine .st (mk 272 [] (L45 a0 a1 a2 ++ [(25,.ptr 25 0 0)]) (H7 r1o)) ?_
 refine .rr 1 ?_
 refine .tt (L46 a0 a1 a2) (H7 r1o) (.nil ?_)
 replace h := bsome h;obtain ⟨v7,hj,h⟩ := h
 refine .cutR (mk 272 [] (L45 a0 a1 a2 ++ [(39,.b v7)]) []) ?_ ?_
 ·clear h;have h := hj;clear hj
  refine .rr 4 ?_
  refine .tt (L47 a0 a1 a2) (H7 r1o) ?_
  replace h := bsome h;obtain ⟨r8,hr8,h⟩ := h
  refine .callC (d := 30) (p6 N  r8 hr8) (by simp) rfl rfl (by simp <;> rfl) (by simp <;> rfl) ent6 (by simp) (.inl ⟨by simp,by simp⟩) ?_
  refine .st (mk 272 [] (L47 a0 a1 a2 ++ [(30,.s71 r8)]) (H7 r1o)) ?_
  replace h := bsome h;obtain ⟨r9,hr9,h⟩ := h
  refine .callF (p5 N r1o 3 (ByteArray.mk #[97]) r8 r9 hr9) [(25,1000),(5500,25000),(5501,25001),(5502,25002),(5503,25003)] [25] [(1000,25),(25000,5500),(25001,5501),(25002,5502),(25003,5503)] [(25,(.box [.ref 5500 0 r9.1.records.length,.ref 5501 0 r9.1.refs.length,.ref 5502 0 r9.1.backups.length,.ref 5503 0 r9.1.changes.length,.i r9.1.earliest])),(5500,(.arr 76 2 (r9.1.records.map cS76))),(5501,(.arr 3 1 (r9.1.refs.map (cI .i64)))),(5502,(.arr 64 2 (r9.1.backups.map cS64))),(5503,(.arr 73 3 (r9.1.changes.map cS73)))] (.i r9.2) (by simp) rfl (by simp <;> rfl) (by simp) (by simp) (by simp) (by simp) (by simp) ent5 (by simp) (by simp) (by simp) (by simp) (by simp) (by simp) ?_
  refine .st (mk 272 [] (L47 a0 a1 a2 ++ [(30,.s71 r8),(31,.i r9.2)]) (H7 r9.1)) ?_
  refine .rr 3 ?_
  refine .tt (L46 a0 a1 a2 ++ [(34,.b (r9.2 != 0))]) (H7 r9.1) ?_
  replace h := isome h;rcases h with ⟨c10,h⟩ | ⟨c10,h⟩
  ·have c10_ : (r9.2 != 0) = true := c10
   refine .sub (.bool 34 rfl c10_) ?_
   refine .st (mk 272 [] (L46 a0 a1 a2 ++ [(34,.b true)]) (H7 r9.1)) ?_
   refine .rr 5 ?_
   refine .tt (L45 a0 a1 a2 ++ [(39,.b true)]) [] ?_
   cases h
   exact .nil .tt
  have c10_ : (r9.2 != 0) = false := Bool.eq_false_iff.2 c10
  refine .sub (.bool 34 rfl c10_) ?_
  refine .st (mk 272 [] (L46 a0 a1 a2 ++ [(34,.b false)]) (H7 r9.1)) ?_
  refine .rr 1 ?_
  refine .tt (L48 a0 a1 a2) (H7 r9.1) ?_
  replace h := bsome h;obtain ⟨r11,hr11,h⟩ := h
  refine .callC (d := 36) (p6 N  r11 hr11) (by simp) rfl rfl (by simp <;> rfl) (by simp <;> rfl) ent6 (by simp) (.inl ⟨by simp,by simp⟩) ?_
  refine .st (mk 272 [] (L48 a0 a1 a2 ++ [(36,.s71 r11)]) (H7 r9.1)) ?_
  replace h := bsome h;obtain ⟨r12,hr12,h⟩ := h
  refine .callF (p5 N r9.1 3 (ByteArray.mk #[97]) r11 r12 hr12) [(25,1000),(5500,25000),(5501,25001),(5502,25002),(5503,25003)] [25] [(1000,25),(25000,5500),(25001,5501),(25002,5502),(25003,5503)] [(25,(.box [.ref 5500 0 r12.1.records.length,.ref 5501 0 r12.1.refs.length,.ref 5502 0 r12.1.backups.length,.ref 5503 0 r12.1.changes.length,.i r12.1.earliest])),(5500,(.arr 76 2 (r12.1.records.map cS76))),(5501,(.arr 3 1 (r12.1.refs.map (cI .i64)))),(5502,(.arr 64 2 (r12.1.backups.map cS64))),(5503,(.arr 73 3 (r12.1.changes.map cS73)))] (.i r12.2) (by simp) rfl (by simp <;> rfl) (by simp) (by simp) (by simp) (by simp) (by simp) ent5 (by simp) (by simp) (by simp) (by simp) (by simp) (by simp) ?_
  refine .st (mk 272 [] (L48 a0 a1 a2 ++ [(36,.s71 r11),(37,.i r12.2)]) (H7 r12.1)) ?_
  refine .rr 2 ?_
  refine .tt (L45 a0 a1 a2 ++ [(39,.b (r12.2 != 6))]) [] ?_
  cases h
  exact .nil .tt
 clear hj
 replace h := isome h;rcases h with ⟨c13,h⟩ | ⟨c13,h⟩
 ·have c13_ : v7 = true := c13
  refine .condT rfl c13_ ?_
  refine .seqR ?_
  refine .rr 1 ?_
  refine .tt [(6,.b false)] [] (.nil (.ret ?_))
  cases h
  refine thenQ_ps ?_
  exact FinC.rs
 have c13_ : v7 = false := Bool.eq_false_iff.2 c13
 refine .condF rfl c13_ ?_
 refine .skip (thenQ_normal (.seqR ?_))
 replace h := bsome h;obtain ⟨r14,hr14,h⟩ := h
 have Fr14 := p4 N  r14 hr14
 rcases osome h with ⟨hr14o,h⟩ | ⟨r14o,hr14o,h⟩
 ·simp only [hr14o,List.append_nil] at Fr14
  refine .callF Fr14 [] [] [] [] (.d (.lit (.pointer none))) (by simp) rfl (by simp <;> rfl) (by simp) (by simp) (by simp) (by simp) (by simp) ent4 (by simp) (by simp) (by simp) (by simp) (by simp) (by simp) ?_
  refine .st (mk 272 [] (L45 a0 a1 a2 ++ [(40,.d (.lit (.pointer none)))]) []) ?_
  refine .rr 1 ?_
  refine .tt (L49 a0 a1 a2) [] (.nil (.seqR ?_))
  refine .rr 2 ?_
  refine .sub (.wmRow 42 [none,some (.string,false)] rfl) ?_
  refine .st (mk 272 [] (L49 a0 a1 a2 ++ [(41,.agg [.i 0,.d (.lit (.map none))]),(42,.ref 42 0 (([(S35.mk 0 [])] : List S35).length))]) [(42,R35 ([(S35.mk 0 [])] : List S35))]) ?_
  refine .rr 2 ?_
  refine .tt (L50 a0 a1 a2) [(42,R35 ([(S35.mk 0 [])] : List S35)),(44,some (.box [.ref 42 0 (([(S35.mk 0 [])] : List S35).length),.z,.i 0]))] ?_
  refine .sub (S' := mk 272 [] (L50 a0 a1 a2) [(44,some (.box [.ref 5880 0 (([(S35.mk 0 [])] : List S35).length),.z,.i 0])),(5880,R35 ([(S35.mk 0 [])] : List S35))]) (Sub.names [(42,5880),(44,44)] (by simp) (by simp) (by simp [back]) (by simp [V.rnm,lk2]) (by simp [back,Blk.rnm,V.rnm,rnmL,lk2])) ?_
  refine .sub (.nilOwnBox (bid := 44) (j := 1) (id := 5881) (T := 46) (n := 3) rfl rfl (by decide) rfl (by decide)) ?_
  refine .st (mk 272 [] (L50 a0 a1 a2) [(44,some (.box [.ref 5880 0 (([(S35.mk 0 [])] : List S35).length),.ref 5881 0 (([] : List S46).length),.i 0])),(5880,R35 ([(S35.mk 0 [])] : List S35)),(5881,R46 ([] : List S46))]) ?_
  refine .rr 2 ?_
  refine .tt (L49 a0 a1 a2 ++ [(9,.ptr 9 0 0)]) H2 (.nil (.seq (.seqR ?_)))
  refine .rr 3 ?_
  refine .tt (L51 a1 a2 a0 a0.length) H2 (.nil ?_)
  refine .lastJ (fun (_ : Unit) => mk 272 [] [] []) h ?_ ?_ <;> clear h
  ·intro o h
   refine .block ?_
   refine .iter (fun (_ : Unit) => mk 272 [] (L51 a1 a2 a0 a0.length) H2) h Sub.tt ?_
   clear h
   rintro ⟨⟩ x h
   refine .seqR ?_
   refine .rr 1 ?_
   refine .tt (L51 a1 a2 a0 a0.length ++ [(48,.b (decide (0 < (a0.length : Int))))]) H2 (.nil (.seq ?_))
   replace h := isome h;rcases h with ⟨c63,h⟩ | ⟨c63,h⟩
   ·have c63_ : decide (0 < (a0.length : Int)) = true := decide_eq_true c63
    refine .condT rfl c63_ ?_
    refine .skip (thenQ_normal (.seq (.block (.seqR ?_))))
    replace h := bsome h;obtain ⟨x64,hx64,h⟩ := h
    obtain ⟨hx64,hx64b,hx64c⟩ := idx_someN (n := 0) hx64
    refine .rk 3 fun K k => ?_;simp [hx64];refine k ?_
    refine .tt (L52 a1 a2 x64 a0 a0.length) H2 (.nil (.seqR ?_))
    refine .rr 1 ?_
    refine .tt (L52 a1 a2 x64 a0 a0.length ++ [(51,.si x64)]) H2 ?_
    replace h := bsome h;obtain ⟨r65,hr65,h⟩ := h
    refine .callL (d := 52) (p7 N x64 1 r65 hr65) (by simp) rfl rfl (by simp <;> rfl) (by simp <;> rfl) ent7 (by simp <;> rfl) ?_
    refine .st (mk 272 [] (L52 a1 a2 x64 a0 a0.length ++ [(51,.si x64),(52,.i r65)]) H2) ?_
    refine .rr 2 ?_
    refine .tt (L53 a1 a2 x64 a0 a0.length r65) H2 ?_
    replace h := bsome h;obtain ⟨r66,hr66,h⟩ := h
    refine .callL (d := 55) (p7 N x64 2 r66 hr66) (by simp) rfl rfl (by simp <;> rfl) (by simp <;> rfl) ent7 (by simp <;> rfl) ?_
    refine .st (mk 272 [] (L53 a1 a2 x64 a0 a0.length r65 ++ [(55,.i r66)]) H2) ?_
    replace h := bsome h;obtain ⟨r67,hr67,h⟩ := h
    refine .callL (d := 56) (p8 N a1 r66 r67 hr67) (by simp) rfl rfl (by simp <;> rfl) (by simp <;> rfl) ent8 (by simp <;> rfl) ?_
    refine .st (mk 272 [] (L53 a1 a2 x64 a0 a0.length r65 ++ [(55,.i r66),(56,.s r67)]) H2) ?_
    refine .rr 2 ?_
    refine .tt (L54 a1 a2 x64 a0 a0.length r65 r67) H2 ?_
    replace h := bsome h;obtain ⟨r68,hr68,h⟩ := h
    refine .callL (d := 59) (p7 N x64 3 r68 hr68) (by simp) rfl rfl (by simp <;> rfl) (by simp <;> rfl) ent7 (by simp <;> rfl) ?_
    refine .st (mk 272 [] (L54 a1 a2 x64 a0 a0.length r65 r67 ++ [(59,.i r68)]) H2) ?_
    replace h := bsome h;obtain ⟨r69,hr69,h⟩ := h
    refine .callC (d := 60) (p9 N a2 r68 r69 hr69) (by simp) rfl rfl (by simp <;> rfl) (by simp <;> rfl) ent9 (by simp) (.inl ⟨by simp,by simp⟩) ?_
    refine .st (mk 272 [] (L54 a1 a2 x64 a0 a0.length r65 r67 ++ [(59,.i r68),(60,.s71 r69)]) H2) ?_
    refine .rr 3 ?_
    refine .tt (L55 a1 a2 x64 ++ [(12,.i r65),(13,.s r67),(14,.s71 r69),(45,.lsi a0),(46,.i (a0.length : Int)),(47,.i 0)]) H2 (.nil (.seqR ?_))
    refine .rr 2 ?_
    refine .tt (L55 a1 a2 x64 ++ [(12,.i r65),(13,.s r67),(14,.s71 r69),(15,.i 0),(16,.i 0),(45,.lsi a0),(46,.i (a0.length : Int)),(47,.i 0)]) H2 (.nil (.seq (.seqR ?_)))
    refine .rr 1 ?_
    refine .tt (L56 a1 a2 r65 r67 r69 a0 a0.length ++ [(61,.si x64)]) H2 ?_
    replace h := bsome h;obtain ⟨r70,hr70,h⟩ := h
    refine .callL (d := 62) (p7 N x64 0 r70 hr70) (by simp) rfl rfl (by simp <;> rfl) (by simp <;> rfl) ent7 (by simp <;> rfl) ?_
    refine .st (mk 272 [] (L56 a1 a2 r65 r67 r69 a0 a0.length ++ [(61,.si x64),(62,.i r70)]) H2) (.nil (.block (.seqR ?_)))
    refine .rr 2 ?_
    refine .tt (L56 a1 a2 r65 r67 r69 a0 a0.length ++ [(62,.i r70),(63,.b (r70 == 1))]) H2 (.nil ?_)
    refine .lastJ (fun (_ : Unit) => mk 272 [] [(1,.ss a1),(2,.ls71 a2),(8,.d (.lit (.pointer none))),(9,.ptr 9 0 0),(15,.i 0),(16,.i 0),(45,.lsi a0),(46,.i (a0.length : Int)),(47,.i 0)] H2) h ?_ ?_ <;> clear h
    ·intro o h
     replace h := isome h;rcases h with ⟨c75,h⟩ | ⟨c75,h⟩
     ·have c75_ : (r70 == 1) = true := c75
      refine .condT rfl c75_ ?_
      cases h
     have c75_ : (r70 == 1) = false := Bool.eq_false_iff.2 c75
     refine .condF rfl c75_ ?_
     refine .seqR ?_
     refine .rr 2 ?_
     refine .tt (L57 a1 a2 r65 a0 a0.length ++ [(62,.i r70),(108,.b (r70 == 2))]) H2 (.nil ?_)
     replace h := isome h;rcases h with ⟨c76,h⟩ | ⟨c76,h⟩
     ·have c76_ : (r70 == 2) = true := c76
      refine .condT rfl c76_ ?_
      refine .seqR ?_
      refine .rr 2 ?_
      refine .tt [(1,.ss a1),(2,.ls71 a2),(8,.d (.lit (.pointer none))),(9,.ptr 9 0 0),(12,.i r65),(16,.i 0),(18,.i 0),(45,.lsi a0),(46,.i (a0.length : Int)),(47,.i 0)] H2 (.nil ?_)
      cases h
     have c76_ : (r70 == 2) = false := Bool.eq_false_iff.2 c76
     refine .condF rfl c76_ ?_
     refine .seqR ?_
     refine .rr 2 ?_
     refine .tt (L57 a1 a2 r65 a0 a0.length ++ [(62,.i r70),(157,.b (r70 == 3))]) H2 (.nil ?_)
     replace h := isome h;rcases h with ⟨c77,h⟩ | ⟨c77,h⟩
     ·have c77_ : (r70 == 3) = true := c77
      refine .condT rfl c77_ ?_
      cases h
     have c77_ : (r70 == 3) = false := Bool.eq_false_iff.2 c77
     refine .condF rfl c77_ ?_
     refine .seqR ?_
     refine .rr 2 ?_
     refine .tt (L57 a1 a2 r65 a0 a0.length ++ [(213,.b (r70 == 4))]) H2 (.nil ?_)
     replace h := isome h;rcases h with ⟨c78,h⟩ | ⟨c78,h⟩
     ·have c78_ : (r70 == 4) = true := c78
      refine .condT rfl c78_ ?_
      cases h
     have c78_ : (r70 == 4) = false := Bool.eq_false_iff.2 c78
     refine .condF rfl c78_ ?_
     refine .skip ?_
     cases h
     refine PostJ.next ?_
     exact Sub.tt
    rintro ⟨⟩ h
    refine blockQ.normal (thenQ_normal ?_)
    cases h
   have c63_ : decide (0 < (a0.length : Int)) = false := decide_eq_false c63
   refine .condF rfl c63_ ?_
   refine .exit ?_
   cases h
   refine thenQ_ps ?_
   refine PostI.os ?_
   rintro rfl
   refine blockQ.hit (PostJ.next ?_)
   exact Sub.tt
  rintro ⟨⟩ h
  refine thenQ_normal (.seqR ?_)
  refine .rr 1 ?_
  refine .tt [(6,.b true)] [] (.nil (.ret ?_))
  cases h
  exact FinC.rs
 simp only [hr14o,List.nil_append] at Fr14
 refine .callF Fr14 [] [] [(1000,40),(25000,5800),(25001,5801),(25002,5802),(25003,5803)] [(40,(.box [.ref 5800 0 r14o.records.length,.ref 5801 0 r14o.refs.length,.ref 5802 0 r14o.backups.length,.ref 5803 0 r14o.changes.length,.d (.lit (.int .i64 r14o.earliest))])),(5800,(.arr 76 2 (r14o.records.map cS76))),(5801,(.arr 3 1 (r14o.refs.map (cI .i64)))),(5802,(.arr 64 2 (r14o.backups.map cS64))),(5803,(.arr 73 3 (r14o.changes.map cS73)))] (.ptr 40 0 0) (by simp) rfl (by simp <;> rfl) (by simp) (by simp) (by simp) (by simp) (by simp) ent4 (by simp) (by simp) (by simp) (by simp) (by simp) (by simp) ?_
 refine .st (mk 272 [] (L45 a0 a1 a2 ++ [(40,.ptr 40 0 0)]) (H18 r14o)) ?_
 refine .rr 1 ?_
 refine .tt (L58 a0 a1 a2) (H18 r14o) (.nil (.seqR ?_))
 refine .rr 2 ?_
 refine .sub (.wmRow 42 [none,some (.string,false)] rfl) ?_
 refine .st (mk 272 [] (L58 a0 a1 a2 ++ [(41,.agg [.i 0,.d (.lit (.map none))]),(42,.ref 42 0 (([(S35.mk 0 [])] : List S35).length))]) [(40,some (.box [.ref 5800 0 r14o.records.length,.ref 5801 0 r14o.refs.length,.ref 5802 0 r14o.backups.length,.ref 5803 0 r14o.changes.length,.i r14o.earliest])),(42,R35 ([(S35.mk 0 [])] : List S35)),(5800,R76 r14o.records),(5801,R3 r14o.refs),(5802,R64 r14o.backups),(5803,R73 r14o.changes)]) ?_
 refine .rr 2 ?_
 refine .tt (L59 a0 a1 a2) [(40,some (.box [.ref 5800 0 r14o.records.length,.ref 5801 0 r14o.refs.length,.ref 5802 0 r14o.backups.length,.ref 5803 0 r14o.changes.length,.i r14o.earliest])),(42,R35 ([(S35.mk 0 [])] : List S35)),(44,some (.box [.ref 42 0 (([(S35.mk 0 [])] : List S35).length),.z,.i 0])),(5800,R76 r14o.records),(5801,R3 r14o.refs),(5802,R64 r14o.backups),(5803,R73 r14o.changes)] ?_
 refine .sub (S' := mk 272 [] (L59 a0 a1 a2) [(40,some (.box [.ref 5800 0 r14o.records.length,.ref 5801 0 r14o.refs.length,.ref 5802 0 r14o.backups.length,.ref 5803 0 r14o.changes.length,.i r14o.earliest])),(44,some (.box [.ref 5880 0 (([(S35.mk 0 [])] : List S35).length),.z,.i 0])),(5800,R76 r14o.records),(5801,R3 r14o.refs),(5802,R64 r14o.backups),(5803,R73 r14o.changes),(5880,R35 ([(S35.mk 0 [])] : List S35))]) (Sub.names [(40,40),(42,5880),(44,44),(5800,5800),(5801,5801),(5802,5802),(5803,5803)] (by simp) (by simp) (by simp [back]) (by simp [V.rnm,lk2]) (by simp [back,Blk.rnm,V.rnm,rnmL,lk2])) ?_
 refine .sub (.nilOwnBox (bid := 44) (j := 1) (id := 5881) (T := 46) (n := 3) rfl rfl (by decide) rfl (by decide)) ?_
 refine .st (mk 272 [] (L59 a0 a1 a2) [(40,some (.box [.ref 5800 0 r14o.records.length,.ref 5801 0 r14o.refs.length,.ref 5802 0 r14o.backups.length,.ref 5803 0 r14o.changes.length,.i r14o.earliest])),(44,some (.box [.ref 5880 0 (([(S35.mk 0 [])] : List S35).length),.ref 5881 0 (([] : List S46).length),.i 0])),(5800,R76 r14o.records),(5801,R3 r14o.refs),(5802,R64 r14o.backups),(5803,R73 r14o.changes),(5880,R35 ([(S35.mk 0 [])] : List S35)),(5881,R46 ([] : List S46))]) ?_
 refine .rr 2 ?_
 refine .tt (L58 a0 a1 a2 ++ [(9,.ptr 9 0 0)]) (H19 r14o) (.nil (.seq (.seqR ?_)))
 refine .rr 3 ?_
 refine .tt [(1,.ss a1),(2,.ls71 a2),(8,.ptr 40 0 0),(9,.ptr 9 0 0),(45,.lsi a0),(46,.i (a0.length : Int)),(47,.i 0)] (H19 r14o) (.nil ?_)
 refine .lastJ (fun (_ : Unit) => mk 272 [] [] []) h ?_ ?_ <;> clear h
 ·intro o h
  refine .block ?_
  refine .iterG (fun (g294 : List S35) ((l289,l290,l291,l292,v293,l295,l296,v297,v298) : ((List S76) × (List Int) × (List S64) × (List S73) × Int × (List S35) × (List S46) × Int × Int)) => mk 272 [] (L60 a1 a2 a0 a0.length v298) [(9,some (.box [.ptr 44 0 0])),(40,some (.box [.ref 5800 0 l289.length,.ref 5801 0 l290.length,.ref 5802 0 l291.length,.ref 5803 0 l292.length,.i v293])),(44,some (.box [.ref 5880 g294.length l295.length,.ref 5881 0 l296.length,.i v297])),(5800,R76 l289),(5801,R3 l290),(5802,R64 l291),(5803,R73 l292),(5880,R35 (g294 ++ l295)),(5881,R46 l296)]) h ([] : List S35) Sub.tt ?_
  clear h
  intro g294
  rintro ⟨l289,l290,l291,l292,v293,l295,l296,v297,v298⟩ x h
  dsimp only at h ⊢
  refine .seqR ?_
  refine .rr 1 ?_
  refine .tt (L60 a1 a2 a0 a0.length v298 ++ [(48,.b (decide (v298 < (a0.length : Int))))]) [(9,some (.box [.ptr 44 0 0])),(40,some (.box [.ref 5800 0 l289.length,.ref 5801 0 l290.length,.ref 5802 0 l291.length,.ref 5803 0 l292.length,.i v293])),(44,some (.box [.ref 5880 g294.length l295.length,.ref 5881 0 l296.length,.i v297])),(5800,R76 l289),(5801,R3 l290),(5802,R64 l291),(5803,R73 l292),(5880,R35 (g294 ++ l295)),(5881,R46 l296)] (.nil (.seq ?_))
  replace h := isome h;rcases h with ⟨c731,h⟩ | ⟨c731,h⟩
  ·have c731_ : decide (v298 < (a0.length : Int)) = true := decide_eq_true c731
   refine .condT rfl c731_ ?_
   refine .skip (thenQ_normal (.seq (.block (.seqR ?_))))
   replace h := xsome h;obtain ⟨x732,k733,hx732k,hx732,hx732a,hx732b,h⟩ := h
   refine .rk 3 fun K k => ?_;simp [hx732,hx732k,hx732a];refine k ?_
   refine .tt (L61 a1 a2 x732 a0 a0.length v298) [(9,some (.box [.ptr 44 0 0])),(40,some (.box [.ref 5800 0 l289.length,.ref 5801 0 l290.length,.ref 5802 0 l291.length,.ref 5803 0 l292.length,.i v293])),(44,some (.box [.ref 5880 g294.length l295.length,.ref 5881 0 l296.length,.i v297])),(5800,R76 l289),(5801,R3 l290),(5802,R64 l291),(5803,R73 l292),(5880,R35 (g294 ++ l295)),(5881,R46 l296)] (.nil (.seqR ?_))
   refine .rr 1 ?_
   refine .tt (L61 a1 a2 x732 a0 a0.length v298 ++ [(51,.si x732)]) [(9,some (.box [.ptr 44 0 0])),(40,some (.box [.ref 5800 0 l289.length,.ref 5801 0 l290.length,.ref 5802 0 l291.length,.ref 5803 0 l292.length,.i v293])),(44,some (.box [.ref 5880 g294.length l295.length,.ref 5881 0 l296.length,.i v297])),(5800,R76 l289),(5801,R3 l290),(5802,R64 l291),(5803,R73 l292),(5880,R35 (g294 ++ l295)),(5881,R46 l296)] ?_
   replace h := bsome h;obtain ⟨r734,hr734,h⟩ := h
   refine .callL (d := 52) (p7 N x732 1 r734 hr734) (by simp) rfl rfl (by simp <;> rfl) (by simp <;> rfl) ent7 (by simp <;> rfl) ?_
   refine .st (mk 272 [] (L61 a1 a2 x732 a0 a0.length v298 ++ [(51,.si x732),(52,.i r734)]) [(9,some (.box [.ptr 44 0 0])),(40,some (.box [.ref 5800 0 l289.length,.ref 5801 0 l290.length,.ref 5802 0 l291.length,.ref 5803 0 l292.length,.i v293])),(44,some (.box [.ref 5880 g294.length l295.length,.ref 5881 0 l296.length,.i v297])),(5800,R76 l289),(5801,R3 l290),(5802,R64 l291),(5803,R73 l292),(5880,R35 (g294 ++ l295)),(5881,R46 l296)]) ?_
   refine .rr 2 ?_
   refine .tt (L62 a1 a2 x732 a0 a0.length v298 r734) [(9,some (.box [.ptr 44 0 0])),(40,some (.box [.ref 5800 0 l289.length,.ref 5801 0 l290.length,.ref 5802 0 l291.length,.ref 5803 0 l292.length,.i v293])),(44,some (.box [.ref 5880 g294.length l295.length,.ref 5881 0 l296.length,.i v297])),(5800,R76 l289),(5801,R3 l290),(5802,R64 l291),(5803,R73 l292),(5880,R35 (g294 ++ l295)),(5881,R46 l296)] ?_
   replace h := bsome h;obtain ⟨r735,hr735,h⟩ := h
   refine .callL (d := 55) (p7 N x732 2 r735 hr735) (by simp) rfl rfl (by simp <;> rfl) (by simp <;> rfl) ent7 (by simp <;> rfl) ?_
   refine .st (mk 272 [] (L62 a1 a2 x732 a0 a0.length v298 r734 ++ [(55,.i r735)]) [(9,some (.box [.ptr 44 0 0])),(40,some (.box [.ref 5800 0 l289.length,.ref 5801 0 l290.length,.ref 5802 0 l291.length,.ref 5803 0 l292.length,.i v293])),(44,some (.box [.ref 5880 g294.length l295.length,.ref 5881 0 l296.length,.i v297])),(5800,R76 l289),(5801,R3 l290),(5802,R64 l291),(5803,R73 l292),(5880,R35 (g294 ++ l295)),(5881,R46 l296)]) ?_
   replace h := bsome h;obtain ⟨r736,hr736,h⟩ := h
   refine .callL (d := 56) (p8 N a1 r735 r736 hr736) (by simp) rfl rfl (by simp <;> rfl) (by simp <;> rfl) ent8 (by simp <;> rfl) ?_
   refine .st (mk 272 [] (L62 a1 a2 x732 a0 a0.length v298 r734 ++ [(55,.i r735),(56,.s r736)]) [(9,some (.box [.ptr 44 0 0])),(40,some (.box [.ref 5800 0 l289.length,.ref 5801 0 l290.length,.ref 5802 0 l291.length,.ref 5803 0 l292.length,.i v293])),(44,some (.box [.ref 5880 g294.length l295.length,.ref 5881 0 l296.length,.i v297])),(5800,R76 l289),(5801,R3 l290),(5802,R64 l291),(5803,R73 l292),(5880,R35 (g294 ++ l295)),(5881,R46 l296)]) ?_
   refine .rr 2 ?_
   refine .tt (L63 a1 a2 x732 a0 a0.length v298 r734 r736) [(9,some (.box [.ptr 44 0 0])),(40,some (.box [.ref 5800 0 l289.length,.ref 5801 0 l290.length,.ref 5802 0 l291.length,.ref 5803 0 l292.length,.i v293])),(44,some (.box [.ref 5880 g294.length l295.length,.ref 5881 0 l296.length,.i v297])),(5800,R76 l289),(5801,R3 l290),(5802,R64 l291),(5803,R73 l292),(5880,R35 (g294 ++ l295)),(5881,R46 l296)] ?_
   replace h := bsome h;obtain ⟨r737,hr737,h⟩ := h
   refine .callL (d := 59) (p7 N x732 3 r737 hr737) (by simp) rfl rfl (by simp <;> rfl) (by simp <;> rfl) ent7 (by simp <;> rfl) ?_
   refine .st (mk 272 [] (L63 a1 a2 x732 a0 a0.length v298 r734 r736 ++ [(59,.i r737)]) [(9,some (.box [.ptr 44 0 0])),(40,some (.box [.ref 5800 0 l289.length,.ref 5801 0 l290.length,.ref 5802 0 l291.length,.ref 5803 0 l292.length,.i v293])),(44,some (.box [.ref 5880 g294.length l295.length,.ref 5881 0 l296.length,.i v297])),(5800,R76 l289),(5801,R3 l290),(5802,R64 l291),(5803,R73 l292),(5880,R35 (g294 ++ l295)),(5881,R46 l296)]) ?_
   replace h := bsome h;obtain ⟨r738,hr738,h⟩ := h
   refine .callC (d := 60) (p9 N a2 r737 r738 hr738) (by simp) rfl rfl (by simp <;> rfl) (by simp <;> rfl) ent9 (by simp) (.inl ⟨by simp,by simp⟩) ?_
   refine .st (mk 272 [] (L63 a1 a2 x732 a0 a0.length v298 r734 r736 ++ [(59,.i r737),(60,.s71 r738)]) [(9,some (.box [.ptr 44 0 0])),(40,some (.box [.ref 5800 0 l289.length,.ref 5801 0 l290.length,.ref 5802 0 l291.length,.ref 5803 0 l292.length,.i v293])),(44,some (.box [.ref 5880 g294.length l295.length,.ref 5881 0 l296.length,.i v297])),(5800,R76 l289),(5801,R3 l290),(5802,R64 l291),(5803,R73 l292),(5880,R35 (g294 ++ l295)),(5881,R46 l296)]) ?_
   refine .rr 3 ?_
   refine .tt [(1,.ss a1),(2,.ls71 a2),(8,.ptr 40 0 0),(9,.ptr 9 0 0),(11,.si x732),(12,.i r734),(13,.s r736),(14,.s71 r738),(45,.lsi a0),(46,.i (a0.length : Int)),(47,.i v298)] [(9,some (.box [.ptr 44 0 0])),(40,some (.box [.ref 5800 0 l289.length,.ref 5801 0 l290.length,.ref 5802 0 l291.length,.ref 5803 0 l292.length,.i v293])),(44,some (.box [.ref 5880 g294.length l295.length,.ref 5881 0 l296.length,.i v297])),(5800,R76 l289),(5801,R3 l290),(5802,R64 l291),(5803,R73 l292),(5880,R35 (g294 ++ l295)),(5881,R46 l296)] (.nil (.seqR ?_))
   refine .rr 2 ?_
   refine .tt [(1,.ss a1),(2,.ls71 a2),(8,.ptr 40 0 0),(9,.ptr 9 0 0),(11,.si x732),(12,.i r734),(13,.s r736),(14,.s71 r738),(15,.i 0),(16,.i 0),(45,.lsi a0),(46,.i (a0.length : Int)),(47,.i v298)] [(9,some (.box [.ptr 44 0 0])),(40,some (.box [.ref 5800 0 l289.length,.ref 5801 0 l290.length,.ref 5802 0 l291.length,.ref 5803 0 l292.length,.i v293])),(44,some (.box [.ref 5880 g294.length l295.length,.ref 5881 0 l296.length,.i v297])),(5800,R76 l289),(5801,R3 l290),(5802,R64 l291),(5803,R73 l292),(5880,R35 (g294 ++ l295)),(5881,R46 l296)] (.nil (.seq (.seqR ?_)))
   refine .rr 1 ?_
   refine .tt (L64 a1 a2 r734 r736 r738 a0 a0.length v298 ++ [(61,.si x732)]) [(9,some (.box [.ptr 44 0 0])),(40,some (.box [.ref 5800 0 l289.length,.ref 5801 0 l290.length,.ref 5802 0 l291.length,.ref 5803 0 l292.length,.i v293])),(44,some (.box [.ref 5880 g294.length l295.length,.ref 5881 0 l296.length,.i v297])),(5800,R76 l289),(5801,R3 l290),(5802,R64 l291),(5803,R73 l292),(5880,R35 (g294 ++ l295)),(5881,R46 l296)] ?_
   replace h := bsome h;obtain ⟨r739,hr739,h⟩ := h
   refine .callL (d := 62) (p7 N x732 0 r739 hr739) (by simp) rfl rfl (by simp <;> rfl) (by simp <;> rfl) ent7 (by simp <;> rfl) ?_
   refine .st (mk 272 [] (L64 a1 a2 r734 r736 r738 a0 a0.length v298 ++ [(61,.si x732),(62,.i r739)]) [(9,some (.box [.ptr 44 0 0])),(40,some (.box [.ref 5800 0 l289.length,.ref 5801 0 l290.length,.ref 5802 0 l291.length,.ref 5803 0 l292.length,.i v293])),(44,some (.box [.ref 5880 g294.length l295.length,.ref 5881 0 l296.length,.i v297])),(5800,R76 l289),(5801,R3 l290),(5802,R64 l291),(5803,R73 l292),(5880,R35 (g294 ++ l295)),(5881,R46 l296)]) (.nil (.block (.seqR ?_)))
   refine .rr 2 ?_
   refine .tt (L64 a1 a2 r734 r736 r738 a0 a0.length v298 ++ [(62,.i r739),(63,.b (r739 == 1))]) [(9,some (.box [.ptr 44 0 0])),(40,some (.box [.ref 5800 0 l289.length,.ref 5801 0 l290.length,.ref 5802 0 l291.length,.ref 5803 0 l292.length,.i v293])),(44,some (.box [.ref 5880 g294.length l295.length,.ref 5881 0 l296.length,.i v297])),(5800,R76 l289),(5801,R3 l290),(5802,R64 l291),(5803,R73 l292),(5880,R35 (g294 ++ l295)),(5881,R46 l296)] (.nil ?_)
   refine .lastJG (fun (g833 : List S35) ((l828,l829,l830,l831,v832,l834,l835,v836,v837,v838) : ((List S76) × (List Int) × (List S64) × (List S73) × Int × (List S35) × (List S46) × Int × Int × Int)) => mk 272 [] (L65 a1 a2 v837 v838 a0 a0.length v298) [(9,some (.box [.ptr 44 0 0])),(40,some (.box [.ref 5800 0 l828.length,.ref 5801 0 l829.length,.ref 5802 0 l830.length,.ref 5803 0 l831.length,.i v832])),(44,some (.box [.ref 5880 g833.length l834.length,.ref 5881 0 l835.length,.i v836])),(5800,R76 l828),(5801,R3 l829),(5802,R64 l830),(5803,R73 l831),(5880,R35 (g833 ++ l834)),(5881,R46 l835)]) h ?_ ?_ <;> clear h
   ·intro o h
    replace h := isome h;rcases h with ⟨c839,h⟩ | ⟨c839,h⟩
    ·have c839_ : (r739 == 1) = true := c839
     refine .condT rfl c839_ ?_
     refine .seqR ?_
     refine .rr 4 ?_
     refine .tt (L66 a1 a2 r734 r736 r738 ++ [(16,.i 0),(45,.lsi a0),(46,.i (a0.length : Int)),(47,.i v298),(65,.ptr 40 0 0),(66,.i r734),(67,.s r736),(68,.s71 r738)]) [(9,some (.box [.ptr 44 0 0])),(40,some (.box [.ref 5800 0 l289.length,.ref 5801 0 l290.length,.ref 5802 0 l291.length,.ref 5803 0 l292.length,.i v293])),(44,some (.box [.ref 5880 g294.length l295.length,.ref 5881 0 l296.length,.i v297])),(5800,R76 l289),(5801,R3 l290),(5802,R64 l291),(5803,R73 l292),(5880,R35 (g294 ++ l295)),(5881,R46 l296)] ?_
     replace h := bsome h;obtain ⟨r840,hr840,h⟩ := h
     refine .callF (p5 N (S68.mk l289 l290 l291 l292 v293) r734 r736 r738 r840 hr840) [(40,1000),(5800,25000),(5801,25001),(5802,25002),(5803,25003)] [40] [(1000,40),(25000,5800),(25001,5801),(25002,5802),(25003,5803)] [(40,(.box [.ref 5800 0 r840.1.records.length,.ref 5801 0 r840.1.refs.length,.ref 5802 0 r840.1.backups.length,.ref 5803 0 r840.1.changes.length,.i r840.1.earliest])),(5800,(.arr 76 2 (r840.1.records.map cS76))),(5801,(.arr 3 1 (r840.1.refs.map (cI .i64)))),(5802,(.arr 64 2 (r840.1.backups.map cS64))),(5803,(.arr 73 3 (r840.1.changes.map cS73)))] (.i r840.2) (by simp) rfl (by simp <;> rfl) (by simp) (by simp) (by simp) (by simp) (by simp) ent5 (by simp) (by simp) (by simp) (by simp) (by simp) (by simp) ?_
     refine .st (mk 272 [] (L66 a1 a2 r734 r736 r738 ++ [(16,.i 0),(45,.lsi a0),(46,.i (a0.length : Int)),(47,.i v298),(65,.ptr 40 0 0),(66,.i r734),(67,.s r736),(68,.s71 r738),(69,.i r840.2)]) [(9,some (.box [.ptr 44 0 0])),(40,some (.box [.ref 5800 0 r840.1.records.length,.ref 5801 0 r840.1.refs.length,.ref 5802 0 r840.1.backups.length,.ref 5803 0 r840.1.changes.length,.i r840.1.earliest])),(44,some (.box [.ref 5880 g294.length l295.length,.ref 5881 0 l296.length,.i v297])),(5800,R76 r840.1.records),(5801,R3 r840.1.refs),(5802,R64 r840.1.backups),(5803,R73 r840.1.changes),(5880,R35 (g294 ++ l295)),(5881,R46 l296)]) ?_
     refine .rr 1 ?_
     refine .tt (L67 a1 a2 r734 r736 r738 r840.2 a0 a0.length v298) [(9,some (.box [.ptr 44 0 0])),(40,some (.box [.ref 5800 0 r840.1.records.length,.ref 5801 0 r840.1.refs.length,.ref 5802 0 r840.1.backups.length,.ref 5803 0 r840.1.changes.length,.i r840.1.earliest])),(44,some (.box [.ref 5880 g294.length l295.length,.ref 5881 0 l296.length,.i v297])),(5800,R76 r840.1.records),(5801,R3 r840.1.refs),(5802,R64 r840.1.backups),(5803,R73 r840.1.changes),(5880,R35 (g294 ++ l295)),(5881,R46 l296)] (.nil (.block (.seqR ?_)))
     refine .rr 2 ?_
     refine .tt (L67 a1 a2 r734 r736 r738 r840.2 a0 a0.length v298 ++ [(84,.i r734),(85,.ptr 44 0 0)]) [(9,some (.box [.ptr 44 0 0])),(40,some (.box [.ref 5800 0 r840.1.records.length,.ref 5801 0 r840.1.refs.length,.ref 5802 0 r840.1.backups.length,.ref 5803 0 r840.1.changes.length,.i r840.1.earliest])),(44,some (.box [.ref 5880 g294.length l295.length,.ref 5881 0 l296.length,.i v297])),(5800,R76 r840.1.records),(5801,R3 r840.1.refs),(5802,R64 r840.1.backups),(5803,R73 r840.1.changes),(5880,R35 (g294 ++ l295)),(5881,R46 l296)] ?_
     replace h := bsome h;obtain ⟨r841,hr841,h⟩ := h
     refine .callF (p10 N (S39.mk l295 l296 v297) g294 r841 hr841) [(44,1000),(5880,25000),(5881,25001)] [44] [(1000,44),(25000,5880),(25001,5881)] [(44,(.box [.ref 5880 g294.length r841.1.Backups.length,.ref 5881 0 r841.1.Changes.length,.i r841.1.Earliest])),(5880,(.arr 35 2 ((g294 ++ r841.1.Backups).map cS35))),(5881,(.arr 46 3 (r841.1.Changes.map cS46)))] (.i r841.2) (by simp) rfl (by simp <;> rfl) (by simp) (by simp) (by simp) (by simp) (by simp) ent10 (by simp) (by simp) (by simp) (by simp) (by simp) (by simp) ?_
     refine .st (mk 272 [] (L67 a1 a2 r734 r736 r738 r840.2 a0 a0.length v298 ++ [(84,.i r734),(85,.ptr 44 0 0),(86,.i r841.2)]) [(9,some (.box [.ptr 44 0 0])),(40,some (.box [.ref 5800 0 r840.1.records.length,.ref 5801 0 r840.1.refs.length,.ref 5802 0 r840.1.backups.length,.ref 5803 0 r840.1.changes.length,.i r840.1.earliest])),(44,some (.box [.ref 5880 g294.length r841.1.Backups.length,.ref 5881 0 r841.1.Changes.length,.i r841.1.Earliest])),(5800,R76 r840.1.records),(5801,R3 r840.1.refs),(5802,R64 r840.1.backups),(5803,R73 r840.1.changes),(5880,R35 (g294 ++ r841.1.Backups)),(5881,R46 r841.1.Changes)]) ?_
     refine .rr 2 ?_
     refine .tt (L67 a1 a2 r734 r736 r738 r840.2 a0 a0.length v298 ++ [(83,.b (decide (r734 ≤ r841.2)))]) [(9,some (.box [.ptr 44 0 0])),(40,some (.box [.ref 5800 0 r840.1.records.length,.ref 5801 0 r840.1.refs.length,.ref 5802 0 r840.1.backups.length,.ref 5803 0 r840.1.changes.length,.i r840.1.earliest])),(44,some (.box [.ref 5880 g294.length r841.1.Backups.length,.ref 5881 0 r841.1.Changes.length,.i r841.1.Earliest])),(5800,R76 r840.1.records),(5801,R3 r840.1.refs),(5802,R64 r840.1.backups),(5803,R73 r840.1.changes),(5880,R35 (g294 ++ r841.1.Backups)),(5881,R46 r841.1.Changes)] (.nil ?_)
     replace h := isome h;rcases h with ⟨c842,h⟩ | ⟨c842,h⟩
     ·have c842_ : decide (r734 ≤ r841.2) = true := decide_eq_true c842
      refine .condT rfl c842_ ?_
      refine .region ?_
      refine .rr 1 ?_
      refine .tt (L68 a1 a2 r840.2 ++ [(45,.lsi a0),(46,.i (a0.length : Int)),(47,.i v298)]) [(9,some (.box [.ptr 44 0 0])),(40,some (.box [.ref 5800 0 r840.1.records.length,.ref 5801 0 r840.1.refs.length,.ref 5802 0 r840.1.backups.length,.ref 5803 0 r840.1.changes.length,.i r840.1.earliest])),(44,some (.box [.ref 5880 g294.length r841.1.Backups.length,.ref 5881 0 r841.1.Changes.length,.i r841.1.Earliest])),(5800,R76 r840.1.records),(5801,R3 r840.1.refs),(5802,R64 r840.1.backups),(5803,R73 r840.1.changes),(5880,R35 (g294 ++ r841.1.Backups)),(5881,R46 r841.1.Changes)] (.nil ?_)
      cases h
      refine blockQ.normal ?_
      refine PostJG.next g294 ?_
      exact Sub.tt
     have c842_ : decide (r734 ≤ r841.2) = false := decide_eq_false c842
     refine .condF rfl c842_ ?_
     replace h := bsome h;obtain ⟨v845,hj,h⟩ := h
     refine .cutR (mk 272 [] (L67 a1 a2 r734 r736 r738 r840.2 a0 a0.length v298 ++ [(88,.b v845)]) [(9,some (.box [.ptr 44 0 0])),(40,some (.box [.ref 5800 0 r840.1.records.length,.ref 5801 0 r840.1.refs.length,.ref 5802 0 r840.1.backups.length,.ref 5803 0 r840.1.changes.length,.i r840.1.earliest])),(44,some (.box [.ref 5880 g294.length r841.1.Backups.length,.ref 5881 0 r841.1.Changes.length,.i r841.1.Earliest])),(5800,R76 r840.1.records),(5801,R3 r840.1.refs),(5802,R64 r840.1.backups),(5803,R73 r840.1.changes),(5880,R35 (g294 ++ r841.1.Backups)),(5881,R46 r841.1.Changes)]) ?_ ?_
     ·clear h;have h := hj;clear hj
      refine .rr 3 ?_
      refine .tt (L67 a1 a2 r734 r736 r738 r840.2 a0 a0.length v298 ++ [(91,.b (decide (r734 > 1099511627776)))]) [(9,some (.box [.ptr 44 0 0])),(40,some (.box [.ref 5800 0 r840.1.records.length,.ref 5801 0 r840.1.refs.length,.ref 5802 0 r840.1.backups.length,.ref 5803 0 r840.1.changes.length,.i r840.1.earliest])),(44,some (.box [.ref 5880 g294.length r841.1.Backups.length,.ref 5881 0 r841.1.Changes.length,.i r841.1.Earliest])),(5800,R76 r840.1.records),(5801,R3 r840.1.refs),(5802,R64 r840.1.backups),(5803,R73 r840.1.changes),(5880,R35 (g294 ++ r841.1.Backups)),(5881,R46 r841.1.Changes)] ?_
      replace h := isome h;rcases h with ⟨c846,h⟩ | ⟨c846,h⟩
      ·have c846_ : decide (r734 > 1099511627776) = true := decide_eq_true c846
       refine .sub (.bool 91 rfl c846_) ?_
       refine .st (mk 272 [] (L67 a1 a2 r734 r736 r738 r840.2 a0 a0.length v298 ++ [(91,.b true)]) [(9,some (.box [.ptr 44 0 0])),(40,some (.box [.ref 5800 0 r840.1.records.length,.ref 5801 0 r840.1.refs.length,.ref 5802 0 r840.1.backups.length,.ref 5803 0 r840.1.changes.length,.i r840.1.earliest])),(44,some (.box [.ref 5880 g294.length r841.1.Backups.length,.ref 5881 0 r841.1.Changes.length,.i r841.1.Earliest])),(5800,R76 r840.1.records),(5801,R3 r840.1.refs),(5802,R64 r840.1.backups),(5803,R73 r840.1.changes),(5880,R35 (g294 ++ r841.1.Backups)),(5881,R46 r841.1.Changes)]) ?_
       refine .rr 10 ?_
       refine .tt (L67 a1 a2 r734 r736 r738 r840.2 a0 a0.length v298 ++ [(88,.b true),(92,.tup []),(93,.tup []),(94,.tup []),(97,.tup []),(98,.tup []),(99,.tup [])]) [(9,some (.box [.ptr 44 0 0])),(40,some (.box [.ref 5800 0 r840.1.records.length,.ref 5801 0 r840.1.refs.length,.ref 5802 0 r840.1.backups.length,.ref 5803 0 r840.1.changes.length,.i r840.1.earliest])),(44,some (.box [.ref 5880 g294.length r841.1.Backups.length,.ref 5881 0 r841.1.Changes.length,.i r841.1.Earliest])),(5800,R76 r840.1.records),(5801,R3 r840.1.refs),(5802,R64 r840.1.backups),(5803,R73 r840.1.changes),(5880,R35 (g294 ++ r841.1.Backups)),(5881,R46 r841.1.Changes)] ?_
       cases h
       exact .nil .tt
      have c846_ : decide (r734 > 1099511627776) = false := decide_eq_false c846
      refine .sub (.bool 91 rfl c846_) ?_
      refine .st (mk 272 [] (L67 a1 a2 r734 r736 r738 r840.2 a0 a0.length v298 ++ [(91,.b false)]) [(9,some (.box [.ptr 44 0 0])),(40,some (.box [.ref 5800 0 r840.1.records.length,.ref 5801 0 r840.1.refs.length,.ref 5802 0 r840.1.backups.length,.ref 5803 0 r840.1.changes.length,.i r840.1.earliest])),(44,some (.box [.ref 5880 g294.length r841.1.Backups.length,.ref 5881 0 r841.1.Changes.length,.i r841.1.Earliest])),(5800,R76 r840.1.records),(5801,R3 r840.1.refs),(5802,R64 r840.1.backups),(5803,R73 r840.1.changes),(5880,R35 (g294 ++ r841.1.Backups)),(5881,R46 r841.1.Changes)]) ?_
      refine .rr 5 ?_
      refine .tt (L69 a1 a2 r734 r736 r738 r840.2 a0 a0.length v298 r736.size ++ [(94,.b (decide ((r736.size : Int) > 24))),(96,.b (decide ((r736.size : Int) > 24)))]) [(9,some (.box [.ptr 44 0 0])),(40,some (.box [.ref 5800 0 r840.1.records.length,.ref 5801 0 r840.1.refs.length,.ref 5802 0 r840.1.backups.length,.ref 5803 0 r840.1.changes.length,.i r840.1.earliest])),(44,some (.box [.ref 5880 g294.length r841.1.Backups.length,.ref 5881 0 r841.1.Changes.length,.i r841.1.Earliest])),(5800,R76 r840.1.records),(5801,R3 r840.1.refs),(5802,R64 r840.1.backups),(5803,R73 r840.1.changes),(5880,R35 (g294 ++ r841.1.Backups)),(5881,R46 r841.1.Changes)] ?_
      replace h := isome h;rcases h with ⟨c847,h⟩ | ⟨c847,h⟩
      ·have c847_ : decide ((r736.size : Int) > 24) = true := decide_eq_true c847
       refine .sub (.bool 94 rfl c847_) ?_
       refine .sub (.bool 96 rfl c847_) ?_
       refine .st (mk 272 [] (L69 a1 a2 r734 r736 r738 r840.2 a0 a0.length v298 r736.size ++ [(94,.b true),(96,.b true)]) [(9,some (.box [.ptr 44 0 0])),(40,some (.box [.ref 5800 0 r840.1.records.length,.ref 5801 0 r840.1.refs.length,.ref 5802 0 r840.1.backups.length,.ref 5803 0 r840.1.changes.length,.i r840.1.earliest])),(44,some (.box [.ref 5880 g294.length r841.1.Backups.length,.ref 5881 0 r841.1.Changes.length,.i r841.1.Earliest])),(5800,R76 r840.1.records),(5801,R3 r840.1.refs),(5802,R64 r840.1.backups),(5803,R73 r840.1.changes),(5880,R35 (g294 ++ r841.1.Backups)),(5881,R46 r841.1.Changes)]) ?_
       refine .rr 5 ?_
       refine .tt (L67 a1 a2 r734 r736 r738 r840.2 a0 a0.length v298 ++ [(88,.b true),(92,.s r736),(93,.i (r736.size : Int)),(94,.b true),(97,.tup []),(98,.tup []),(99,.tup [])]) [(9,some (.box [.ptr 44 0 0])),(40,some (.box [.ref 5800 0 r840.1.records.length,.ref 5801 0 r840.1.refs.length,.ref 5802 0 r840.1.backups.length,.ref 5803 0 r840.1.changes.length,.i r840.1.earliest])),(44,some (.box [.ref 5880 g294.length r841.1.Backups.length,.ref 5881 0 r841.1.Changes.length,.i r841.1.Earliest])),(5800,R76 r840.1.records),(5801,R3 r840.1.refs),(5802,R64 r840.1.backups),(5803,R73 r840.1.changes),(5880,R35 (g294 ++ r841.1.Backups)),(5881,R46 r841.1.Changes)] ?_
       cases h
       exact .nil .tt
      have c847_ : decide ((r736.size : Int) > 24) = false := decide_eq_false c847
      refine .sub (.bool 94 rfl c847_) ?_
      refine .sub (.bool 96 rfl c847_) ?_
      refine .st (mk 272 [] (L69 a1 a2 r734 r736 r738 r840.2 a0 a0.length v298 r736.size ++ [(94,.b false),(96,.b false)]) [(9,some (.box [.ptr 44 0 0])),(40,some (.box [.ref 5800 0 r840.1.records.length,.ref 5801 0 r840.1.refs.length,.ref 5802 0 r840.1.backups.length,.ref 5803 0 r840.1.changes.length,.i r840.1.earliest])),(44,some (.box [.ref 5880 g294.length r841.1.Backups.length,.ref 5881 0 r841.1.Changes.length,.i r841.1.Earliest])),(5800,R76 r840.1.records),(5801,R3 r840.1.refs),(5802,R64 r840.1.backups),(5803,R73 r840.1.changes),(5880,R35 (g294 ++ r841.1.Backups)),(5881,R46 r841.1.Changes)]) ?_
      refine .rr 5 ?_
      refine .tt (L67 a1 a2 r734 r736 r738 r840.2 a0 a0.length v298 ++ [(88,.b (decide ((r738.length : Int) > 6))),(92,.s r736),(93,.i (r736.size : Int)),(94,.b false),(97,.s71 r738),(98,.i (r738.length : Int)),(99,.b (decide ((r738.length : Int) > 6)))]) [(9,some (.box [.ptr 44 0 0])),(40,some (.box [.ref 5800 0 r840.1.records.length,.ref 5801 0 r840.1.refs.length,.ref 5802 0 r840.1.backups.length,.ref 5803 0 r840.1.changes.length,.i r840.1.earliest])),(44,some (.box [.ref 5880 g294.length r841.1.Backups.length,.ref 5881 0 r841.1.Changes.length,.i r841.1.Earliest])),(5800,R76 r840.1.records),(5801,R3 r840.1.refs),(5802,R64 r840.1.backups),(5803,R73 r840.1.changes),(5880,R35 (g294 ++ r841.1.Backups)),(5881,R46 r841.1.Changes)] ?_
      cases h
      exact .nil .tt
     clear hj
     replace h := isome h;rcases h with ⟨c848,h⟩ | ⟨c848,h⟩
     ·have c848_ : v845 = true := c848
      refine .condT rfl c848_ ?_
      refine .region ?_
      refine .rr 1 ?_
      refine .tt (L70 a1 a2 r840.2 ++ [(45,.lsi a0),(46,.i (a0.length : Int)),(47,.i v298)]) [(9,some (.box [.ptr 44 0 0])),(40,some (.box [.ref 5800 0 r840.1.records.length,.ref 5801 0 r840.1.refs.length,.ref 5802 0 r840.1.backups.length,.ref 5803 0 r840.1.changes.length,.i r840.1.earliest])),(44,some (.box [.ref 5880 g294.length r841.1.Backups.length,.ref 5881 0 r841.1.Changes.length,.i r841.1.Earliest])),(5800,R76 r840.1.records),(5801,R3 r840.1.refs),(5802,R64 r840.1.backups),(5803,R73 r840.1.changes),(5880,R35 (g294 ++ r841.1.Backups)),(5881,R46 r841.1.Changes)] (.nil ?_)
      cases h
      refine blockQ.normal ?_
      refine PostJG.next g294 ?_
      exact Sub.tt
     have c848_ : v845 = false := Bool.eq_false_iff.2 c848
     refine .condF rfl c848_ ?_
     refine .seqR ?_
     refine .rr 7 ?_
     refine .tt (L67 a1 a2 r734 r736 r738 r840.2 a0 a0.length v298 ++ [(101,.b (decide ((r841.1.Changes.length : Int) ≥ 200)))]) [(9,some (.box [.ptr 44 0 0])),(40,some (.box [.ref 5800 0 r840.1.records.length,.ref 5801 0 r840.1.refs.length,.ref 5802 0 r840.1.backups.length,.ref 5803 0 r840.1.changes.length,.i r840.1.earliest])),(44,some (.box [.ref 5880 g294.length r841.1.Backups.length,.ref 5881 0 r841.1.Changes.length,.i r841.1.Earliest])),(5800,R76 r840.1.records),(5801,R3 r840.1.refs),(5802,R64 r840.1.backups),(5803,R73 r840.1.changes),(5880,R35 (g294 ++ r841.1.Backups)),(5881,R46 r841.1.Changes)] (.nil ?_)
     replace h := isome h;rcases h with ⟨c849,h⟩ | ⟨c849,h⟩
     ·have c849_ : decide ((r841.1.Changes.length : Int) ≥ 200) = true := decide_eq_true c849
      refine .condT rfl c849_ ?_
      refine .region ?_
      refine .rr 1 ?_
      refine .tt (L71 a1 a2 r840.2 ++ [(45,.lsi a0),(46,.i (a0.length : Int)),(47,.i v298)]) [(9,some (.box [.ptr 44 0 0])),(40,some (.box [.ref 5800 0 r840.1.records.length,.ref 5801 0 r840.1.refs.length,.ref 5802 0 r840.1.backups.length,.ref 5803 0 r840.1.changes.length,.i r840.1.earliest])),(44,some (.box [.ref 5880 g294.length r841.1.Backups.length,.ref 5881 0 r841.1.Changes.length,.i r841.1.Earliest])),(5800,R76 r840.1.records),(5801,R3 r840.1.refs),(5802,R64 r840.1.backups),(5803,R73 r840.1.changes),(5880,R35 (g294 ++ r841.1.Backups)),(5881,R46 r841.1.Changes)] (.nil ?_)
      cases h
      refine blockQ.normal ?_
      refine PostJG.next g294 ?_
      exact Sub.tt
     have c849_ : decide ((r841.1.Changes.length : Int) ≥ 200) = false := decide_eq_false c849
     refine .condF rfl c849_ ?_
     replace h := bsome h;obtain ⟨l850,hl850,h⟩ := h
     obtain ⟨hl850a,hl850⟩ := appL_some hl850
     subst hl850
     try simp only [List.length_cons,List.length_nil,Nat.zero_add] at hl850a
     refine .lastAnyS [[],[],[1],[1,2],[1,2,3],[],[],[],[5,6,7],[5,6,7,8],[1,2,3,4,5,6,7,8,9],[0,1,2,3,4,5,6,7,8,9,10],[0,1,2,3,4,5,6,7,8,9,10,11],[0,1,2,3,4,5,6,7,8,9,10,11,12]] (fun (b : Nat → Bool) => mk 272 [] [(1,.ss a1),(2,.ls71 a2),(8,.ptr 40 0 0),(9,.ptr 9 0 0),(12,.i r734),(13,.s r736),(14,.s71 r738),(15,.i r840.2),(16,.i 0),(45,.lsi a0),(46,.i (a0.length : Int)),(47,.i v298),(70,(if b 0 then .ptr 44 0 0 else .junk)),(71,(if b 1 then .ptr 44 0 0 else .junk)),(72,(if b 2 then .ptr 44 0 0 else .junk)),(73,(if b 3 then .ptr 44 0 1 else .junk)),(74,(if b 10 then .junk else (if b 4 then .ref 5881 0 r841.1.Changes.length else .junk))),(75,(if b 5 then .i r734 else .junk)),(76,(if b 6 then .s r736 else .junk)),(77,(if b 7 then .s71 r738 else .junk)),(78,(if b 8 then .agg [.i r734,.s r736,.s71 r738] else .junk)),(79,(if b 9 then .d (.sl ([(S46.mk r734 r736 r738)].map cS46)) else .junk)),(80,(if b 10 then .ref 5881 0 ((r841.1.Changes ++ [(S46.mk r734 r736 r738)]).length) else .junk)),(81,(if b 11 then .ptr 44 0 0 else .junk)),(82,(if b 12 then .ptr 44 0 1 else .junk))] [(9,some (.box [.ptr 44 0 0])),(40,some (.box [.ref 5800 0 r840.1.records.length,.ref 5801 0 r840.1.refs.length,.ref 5802 0 r840.1.backups.length,.ref 5803 0 r840.1.changes.length,.i r840.1.earliest])),(44,(if b 13 then some (.box [.ref 5880 g294.length r841.1.Backups.length,.ref 5881 0 ((r841.1.Changes ++ [(S46.mk r734 r736 r738)]).length),.i r841.1.Earliest]) else (if b 10 then some (.box [.ref 5880 g294.length r841.1.Backups.length,.hole,.i r841.1.Earliest]) else some (.box [.ref 5880 g294.length r841.1.Backups.length,.ref 5881 0 r841.1.Changes.length,.i r841.1.Earliest])))),(5800,R76 r840.1.records),(5801,R3 r840.1.refs),(5802,R64 r840.1.backups),(5803,R73 r840.1.changes),(5880,R35 (g294 ++ r841.1.Backups)),(5881,(if b 10 then R46 (r841.1.Changes ++ [(S46.mk r734 r736 r738)]) else R46 r841.1.Changes))]) (mk 272 [] (L72 a1 a2 r840.2 a0 a0.length v298) [(9,some (.box [.ptr 44 0 0])),(40,some (.box [.ref 5800 0 r840.1.records.length,.ref 5801 0 r840.1.refs.length,.ref 5802 0 r840.1.backups.length,.ref 5803 0 r840.1.changes.length,.i r840.1.earliest])),(44,some (.box [.ref 5880 g294.length r841.1.Backups.length,.ref 5881 0 ((r841.1.Changes ++ [(S46.mk r734 r736 r738)]).length),.i r841.1.Earliest])),(5800,R76 r840.1.records),(5801,R3 r840.1.refs),(5802,R64 r840.1.backups),(5803,R73 r840.1.changes),(5880,R35 (g294 ++ r841.1.Backups)),(5881,R46 (r841.1.Changes ++ [(S46.mk r734 r736 r738)]))]) (by kernel_rfl) (by kernel_rfl) Sub.tt (Steps.cons ?_ (Steps.cons ?_ (Steps.cons ?_ (Steps.cons ?_ (Steps.cons ?_ (Steps.cons ?_ (Steps.cons ?_ (Steps.cons ?_ (Steps.cons ?_ (Steps.cons ?_ (Steps.cons ?_ (Steps.cons ?_ (Steps.cons ?_ (Steps.cons ?_ (Steps.nil))))))))))))))) ?_ ?_
     iterate 10
      ·intro b h0 ha hd
       have T := fct h0 ha hd;simp at T
       refine .runK [79] 1 fun K k => ?_;simp [T];refine k _ _ ?_;clear k K
       exact .nil .tT
     iterate 4
      ·intro b h0 ha hd
       have T := fct h0 ha hd;simp at T
       refine .runK [79] 1 fun K k => ?_;simp [T,hl850a];refine k _ _ ?_;clear k K
       exact .nil .tT
     ·intro b hb
      have T := FA_of (n := 14) hb;simp at T
      exact Sub.tT
     skip
     cases h
     refine blockQ.normal ?_
     refine PostJG.next g294 ?_
     exact Sub.tt
    have c839_ : (r739 == 1) = false := Bool.eq_false_iff.2 c839
    refine .condF rfl c839_ ?_
    refine .seqR ?_
    refine .rr 2 ?_
    refine .tt (L73 a1 a2 r734 a0 a0.length v298 ++ [(62,.i r739),(108,.b (r739 == 2))]) [(9,some (.box [.ptr 44 0 0])),(40,some (.box [.ref 5800 0 l289.length,.ref 5801 0 l290.length,.ref 5802 0 l291.length,.ref 5803 0 l292.length,.i v293])),(44,some (.box [.ref 5880 g294.length l295.length,.ref 5881 0 l296.length,.i v297])),(5800,R76 l289),(5801,R3 l290),(5802,R64 l291),(5803,R73 l292),(5880,R35 (g294 ++ l295)),(5881,R46 l296)] (.nil ?_)
    replace h := isome h;rcases h with ⟨c851,h⟩ | ⟨c851,h⟩
    ·have c851_ : (r739 == 2) = true := c851
     refine .condT rfl c851_ ?_
     refine .seqR ?_
     refine .rr 2 ?_
     refine .tt (L74 a1 a2 r734 a0 a0.length v298) [(9,some (.box [.ptr 44 0 0])),(40,some (.box [.ref 5800 0 l289.length,.ref 5801 0 l290.length,.ref 5802 0 l291.length,.ref 5803 0 l292.length,.i v293])),(44,some (.box [.ref 5880 g294.length l295.length,.ref 5881 0 l296.length,.i v297])),(5800,R76 l289),(5801,R3 l290),(5802,R64 l291),(5803,R73 l292),(5880,R35 (g294 ++ l295)),(5881,R46 l296)] (.nil (.seqR ?_))
     refine .rr 2 ?_
     refine .tt (L74 a1 a2 r734 a0 a0.length v298 ++ [(111,.ptr 40 0 0),(112,.i r734)]) [(9,some (.box [.ptr 44 0 0])),(40,some (.box [.ref 5800 0 l289.length,.ref 5801 0 l290.length,.ref 5802 0 l291.length,.ref 5803 0 l292.length,.i v293])),(44,some (.box [.ref 5880 g294.length l295.length,.ref 5881 0 l296.length,.i v297])),(5800,R76 l289),(5801,R3 l290),(5802,R64 l291),(5803,R73 l292),(5880,R35 (g294 ++ l295)),(5881,R46 l296)] ?_
     replace h := bsome h;obtain ⟨r852,hr852,h⟩ := h
     refine .callF (p11 N (S68.mk l289 l290 l291 l292 v293) r734 r852 hr852) [(40,1000),(5800,25000),(5801,25001),(5802,25002),(5803,25003)] [40] [(1000,40),(25000,5800),(25001,5801),(25002,5802),(25003,5803)] [(40,(.box [.ref 5800 0 r852.1.records.length,.ref 5801 0 r852.1.refs.length,.ref 5802 0 r852.1.backups.length,.ref 5803 0 r852.1.changes.length,.i r852.1.earliest])),(5800,(.arr 76 2 (r852.1.records.map cS76))),(5801,(.arr 3 1 (r852.1.refs.map (cI .i64)))),(5802,(.arr 64 2 (r852.1.backups.map cS64))),(5803,(.arr 73 3 (r852.1.changes.map cS73)))] (.tup [.i r852.2.1,.i r852.2.2]) (by simp) rfl (by simp <;> rfl) (by simp) (by simp) (by simp) (by simp) (by simp) ent11 (by simp) (by simp) (by simp) (by simp) (by simp) (by simp) ?_
     refine .st (mk 272 [] (L74 a1 a2 r734 a0 a0.length v298 ++ [(111,.ptr 40 0 0),(112,.i r734),(113,.tup [.i r852.2.1,.i r852.2.2])]) [(9,some (.box [.ptr 44 0 0])),(40,some (.box [.ref 5800 0 r852.1.records.length,.ref 5801 0 r852.1.refs.length,.ref 5802 0 r852.1.backups.length,.ref 5803 0 r852.1.changes.length,.i r852.1.earliest])),(44,some (.box [.ref 5880 g294.length l295.length,.ref 5881 0 l296.length,.i v297])),(5800,R76 r852.1.records),(5801,R3 r852.1.refs),(5802,R64 r852.1.backups),(5803,R73 r852.1.changes),(5880,R35 (g294 ++ l295)),(5881,R46 l296)]) ?_
     refine .rr 5 ?_
     refine .tt (L75 a1 a2 r734 r852.2.2 r852.2.1 a0 a0.length v298) [(9,some (.box [.ptr 44 0 0])),(40,some (.box [.ref 5800 0 r852.1.records.length,.ref 5801 0 r852.1.refs.length,.ref 5802 0 r852.1.backups.length,.ref 5803 0 r852.1.changes.length,.i r852.1.earliest])),(44,some (.box [.ref 5880 g294.length l295.length,.ref 5881 0 l296.length,.i v297])),(5800,R76 r852.1.records),(5801,R3 r852.1.refs),(5802,R64 r852.1.backups),(5803,R73 r852.1.changes),(5880,R35 (g294 ++ l295)),(5881,R46 l296)] (.nil (.seqR ?_))
     refine .rr 2 ?_
     refine .tt (L75 a1 a2 r734 r852.2.2 r852.2.1 a0 a0.length v298 ++ [(116,.ptr 44 0 0),(117,.i r734)]) [(9,some (.box [.ptr 44 0 0])),(40,some (.box [.ref 5800 0 r852.1.records.length,.ref 5801 0 r852.1.refs.length,.ref 5802 0 r852.1.backups.length,.ref 5803 0 r852.1.changes.length,.i r852.1.earliest])),(44,some (.box [.ref 5880 g294.length l295.length,.ref 5881 0 l296.length,.i v297])),(5800,R76 r852.1.records),(5801,R3 r852.1.refs),(5802,R64 r852.1.backups),(5803,R73 r852.1.changes),(5880,R35 (g294 ++ l295)),(5881,R46 l296)] ?_
     replace h := bsome h;obtain ⟨r853,hr853,h⟩ := h
     refine .callF (p12 N (S39.mk l295 l296 v297) r734 g294 r853 hr853) [(44,1000),(5880,25000),(5881,25001)] [44] [(1000,44),(25000,5880),(25001,5881)] [(44,(.box [.ref 5880 g294.length r853.1.Backups.length,.ref 5881 0 r853.1.Changes.length,.i r853.1.Earliest])),(5880,(.arr 35 2 ((g294 ++ r853.1.Backups).map cS35))),(5881,(.arr 46 3 (r853.1.Changes.map cS46)))] (.d (.mpi .string false (r853.2.map (MKey.sk ∘ Prod.fst)) (r853.2.map ((cL cS71) ∘ Prod.snd)))) (by simp) rfl (by simp <;> rfl) (by simp) (by simp) (by simp) (by simp) (by simp) ent12 (by simp) (by simp) (by simp) (by simp) (by simp) (by simp) ?_
     refine .st (mk 272 [] (L75 a1 a2 r734 r852.2.2 r852.2.1 a0 a0.length v298 ++ [(116,.ptr 44 0 0),(117,.i r734),(118,.d (.mpi .string false (r853.2.map (MKey.sk ∘ Prod.fst)) (r853.2.map ((cL cS71) ∘ Prod.snd))))]) [(9,some (.box [.ptr 44 0 0])),(40,some (.box [.ref 5800 0 r852.1.records.length,.ref 5801 0 r852.1.refs.length,.ref 5802 0 r852.1.backups.length,.ref 5803 0 r852.1.changes.length,.i r852.1.earliest])),(44,some (.box [.ref 5880 g294.length r853.1.Backups.length,.ref 5881 0 r853.1.Changes.length,.i r853.1.Earliest])),(5800,R76 r852.1.records),(5801,R3 r852.1.refs),(5802,R64 r852.1.backups),(5803,R73 r852.1.changes),(5880,R35 (g294 ++ r853.1.Backups)),(5881,R46 r853.1.Changes)]) ?_
     refine .rr 1 ?_
     refine .tt (L76 a1 a2 r734 r852.2.2 r852.2.1 ++ [(19,.d (.mpi .string false (r853.2.map (MKey.sk ∘ Prod.fst)) (r853.2.map ((cL cS71) ∘ Prod.snd)))),(45,.lsi a0),(46,.i (a0.length : Int)),(47,.i v298)]) [(9,some (.box [.ptr 44 0 0])),(40,some (.box [.ref 5800 0 r852.1.records.length,.ref 5801 0 r852.1.refs.length,.ref 5802 0 r852.1.backups.length,.ref 5803 0 r852.1.changes.length,.i r852.1.earliest])),(44,some (.box [.ref 5880 g294.length r853.1.Backups.length,.ref 5881 0 r853.1.Changes.length,.i r853.1.Earliest])),(5800,R76 r852.1.records),(5801,R3 r852.1.refs),(5802,R64 r852.1.backups),(5803,R73 r852.1.changes),(5880,R35 (g294 ++ r853.1.Backups)),(5881,R46 r853.1.Changes)] (.nil (.seq (.block (.seqR ?_))))
     refine .rr 2 ?_
     refine .tt (L76 a1 a2 r734 r852.2.2 r852.2.1 ++ [(19,.d (.mpi .string false (r853.2.map (MKey.sk ∘ Prod.fst)) (r853.2.map ((cL cS71) ∘ Prod.snd)))),(45,.lsi a0),(46,.i (a0.length : Int)),(47,.i v298),(135,.i r734),(136,.ptr 44 0 0)]) [(9,some (.box [.ptr 44 0 0])),(40,some (.box [.ref 5800 0 r852.1.records.length,.ref 5801 0 r852.1.refs.length,.ref 5802 0 r852.1.backups.length,.ref 5803 0 r852.1.changes.length,.i r852.1.earliest])),(44,some (.box [.ref 5880 g294.length r853.1.Backups.length,.ref 5881 0 r853.1.Changes.length,.i r853.1.Earliest])),(5800,R76 r852.1.records),(5801,R3 r852.1.refs),(5802,R64 r852.1.backups),(5803,R73 r852.1.changes),(5880,R35 (g294 ++ r853.1.Backups)),(5881,R46 r853.1.Changes)] ?_
     replace h := bsome h;obtain ⟨r854,hr854,h⟩ := h
     refine .callF (p10 N r853.1 g294 r854 hr854) [(44,1000),(5880,25000),(5881,25001)] [44] [(1000,44),(25000,5880),(25001,5881)] [(44,(.box [.ref 5880 g294.length r854.1.Backups.length,.ref 5881 0 r854.1.Changes.length,.d (.lit (.int .i64 r854.1.Earliest))])),(5880,(.arr 35 2 ((g294 ++ r854.1.Backups).map cS35))),(5881,(.arr 46 3 (r854.1.Changes.map cS46)))] (.d (.lit (.int .i64 r854.2))) (by simp) rfl (by simp <;> rfl) (by simp) (by simp) (by simp) (by simp) (by simp) ent10 (by simp) (by simp) (by simp) (by simp) (by simp) (by simp) ?_
     refine .st (mk 272 [] (L76 a1 a2 r734 r852.2.2 r852.2.1 ++ [(19,.d (.mpi .string false (r853.2.map (MKey.sk ∘ Prod.fst)) (r853.2.map ((cL cS71) ∘ Prod.snd)))),(45,.lsi a0),(46,.i (a0.length : Int)),(47,.i v298),(135,.i r734),(136,.ptr 44 0 0),(137,.i r854.2)]) [(9,some (.box [.ptr 44 0 0])),(40,some (.box [.ref 5800 0 r852.1.records.length,.ref 5801 0 r852.1.refs.length,.ref 5802 0 r852.1.backups.length,.ref 5803 0 r852.1.changes.length,.i r852.1.earliest])),(44,some (.box [.ref 5880 g294.length r854.1.Backups.length,.ref 5881 0 r854.1.Changes.length,.i r854.1.Earliest])),(5800,R76 r852.1.records),(5801,R3 r852.1.refs),(5802,R64 r852.1.backups),(5803,R73 r852.1.changes),(5880,R35 (g294 ++ r854.1.Backups)),(5881,R46 r854.1.Changes)]) ?_
     refine .rr 2 ?_
     refine .tt (L76 a1 a2 r734 r852.2.2 r852.2.1 ++ [(19,.d (.mpi .string false (r853.2.map (MKey.sk ∘ Prod.fst)) (r853.2.map ((cL cS71) ∘ Prod.snd)))),(45,.lsi a0),(46,.i (a0.length : Int)),(47,.i v298),(134,.b (decide (r734 ≤ r854.2)))]) [(9,some (.box [.ptr 44 0 0])),(40,some (.box [.ref 5800 0 r852.1.records.length,.ref 5801 0 r852.1.refs.length,.ref 5802 0 r852.1.backups.length,.ref 5803 0 r852.1.changes.length,.i r852.1.earliest])),(44,some (.box [.ref 5880 g294.length r854.1.Backups.length,.ref 5881 0 r854.1.Changes.length,.i r854.1.Earliest])),(5800,R76 r852.1.records),(5801,R3 r852.1.refs),(5802,R64 r852.1.backups),(5803,R73 r852.1.changes),(5880,R35 (g294 ++ r854.1.Backups)),(5881,R46 r854.1.Changes)] (.nil ?_)
     replace h := isome h;rcases h with ⟨c855,h⟩ | ⟨c855,h⟩
     ·have c855_ : decide (r734 ≤ r854.2) = true := decide_eq_true c855
      refine .condT rfl c855_ ?_
      refine .region ?_
      refine .rr 1 ?_
      refine .tt (L68 a1 a2 r852.2.2 ++ [(17,.i r852.2.1),(18,.i 0),(45,.lsi a0),(46,.i (a0.length : Int)),(47,.i v298)]) [(9,some (.box [.ptr 44 0 0])),(40,some (.box [.ref 5800 0 r852.1.records.length,.ref 5801 0 r852.1.refs.length,.ref 5802 0 r852.1.backups.length,.ref 5803 0 r852.1.changes.length,.i r852.1.earliest])),(44,some (.box [.ref 5880 g294.length r854.1.Backups.length,.ref 5881 0 r854.1.Changes.length,.i r854.1.Earliest])),(5800,R76 r852.1.records),(5801,R3 r852.1.refs),(5802,R64 r852.1.backups),(5803,R73 r852.1.changes),(5880,R35 (g294 ++ r854.1.Backups)),(5881,R46 r854.1.Changes)] (.nil (blockQ.normal (thenQ_normal (.seqR ?_))))
      refine .rr 3 ?_
      refine .tt (L68 a1 a2 r852.2.2 ++ [(45,.lsi a0),(46,.i (a0.length : Int)),(47,.i v298),(156,.b (r852.2.1 != 0))]) [(9,some (.box [.ptr 44 0 0])),(40,some (.box [.ref 5800 0 r852.1.records.length,.ref 5801 0 r852.1.refs.length,.ref 5802 0 r852.1.backups.length,.ref 5803 0 r852.1.changes.length,.i r852.1.earliest])),(44,some (.box [.ref 5880 g294.length r854.1.Backups.length,.ref 5881 0 r854.1.Changes.length,.i r854.1.Earliest])),(5800,R76 r852.1.records),(5801,R3 r852.1.refs),(5802,R64 r852.1.backups),(5803,R73 r852.1.changes),(5880,R35 (g294 ++ r854.1.Backups)),(5881,R46 r854.1.Changes)] (.nil ?_)
      replace h := isome h;rcases h with ⟨c856,h⟩ | ⟨c856,h⟩
      ·have c856_ : (r852.2.1 != 0) = true := c856
       refine .condT rfl c856_ ?_
       refine .seqR ?_
       refine .rr 1 ?_
       refine .tt [(6,.b false)] [] (.nil (.ret ?_))
       cases h
       refine PostJG.out (by simp) ?_
       rintro rfl
       refine blockQ.ret ?_
       refine thenQ_ps ?_
       refine blockQ.ret ?_
       refine thenQ_ps ?_
       refine PostIG.out (by simp) ?_
       rintro rfl
       refine blockQ.ret ?_
       refine PostJ.out (by simp) ?_
       rintro rfl
       refine thenQ_ps ?_
       exact FinC.rs
      have c856_ : (r852.2.1 != 0) = false := Bool.eq_false_iff.2 c856
      refine .condF rfl c856_ ?_
      refine .skip ?_
      cases h
      refine PostJG.next g294 ?_
      exact Sub.tt
     have c855_ : decide (r734 ≤ r854.2) = false := decide_eq_false c855
     refine .condF rfl c855_ ?_
     refine .seqR ?_
     refine .rr 3 ?_
     refine .tt (L76 a1 a2 r734 r852.2.2 r852.2.1 ++ [(19,.d (.mpi .string false (r853.2.map (MKey.sk ∘ Prod.fst)) (r853.2.map ((cL cS71) ∘ Prod.snd)))),(45,.lsi a0),(46,.i (a0.length : Int)),(47,.i v298),(139,.b (decide (r734 > 1099511627776)))]) [(9,some (.box [.ptr 44 0 0])),(40,some (.box [.ref 5800 0 r852.1.records.length,.ref 5801 0 r852.1.refs.length,.ref 5802 0 r852.1.backups.length,.ref 5803 0 r852.1.changes.length,.i r852.1.earliest])),(44,some (.box [.ref 5880 g294.length r854.1.Backups.length,.ref 5881 0 r854.1.Changes.length,.i r854.1.Earliest])),(5800,R76 r852.1.records),(5801,R3 r852.1.refs),(5802,R64 r852.1.backups),(5803,R73 r852.1.changes),(5880,R35 (g294 ++ r854.1.Backups)),(5881,R46 r854.1.Changes)] (.nil ?_)
     replace h := isome h;rcases h with ⟨c857,h⟩ | ⟨c857,h⟩
     ·have c857_ : decide (r734 > 1099511627776) = true := decide_eq_true c857
      refine .condT rfl c857_ ?_
      refine .region ?_
      refine .rr 1 ?_
      refine .tt (L70 a1 a2 r852.2.2 ++ [(17,.i r852.2.1),(18,.i 0),(45,.lsi a0),(46,.i (a0.length : Int)),(47,.i v298)]) [(9,some (.box [.ptr 44 0 0])),(40,some (.box [.ref 5800 0 r852.1.records.length,.ref 5801 0 r852.1.refs.length,.ref 5802 0 r852.1.backups.length,.ref 5803 0 r852.1.changes.length,.i r852.1.earliest])),(44,some (.box [.ref 5880 g294.length r854.1.Backups.length,.ref 5881 0 r854.1.Changes.length,.i r854.1.Earliest])),(5800,R76 r852.1.records),(5801,R3 r852.1.refs),(5802,R64 r852.1.backups),(5803,R73 r852.1.changes),(5880,R35 (g294 ++ r854.1.Backups)),(5881,R46 r854.1.Changes)] (.nil (blockQ.normal (thenQ_normal (.seqR ?_))))
      refine .rr 3 ?_
      refine .tt (L70 a1 a2 r852.2.2 ++ [(45,.lsi a0),(46,.i (a0.length : Int)),(47,.i v298),(156,.b (r852.2.1 != 0))]) [(9,some (.box [.ptr 44 0 0])),(40,some (.box [.ref 5800 0 r852.1.records.length,.ref 5801 0 r852.1.refs.length,.ref 5802 0 r852.1.backups.length,.ref 5803 0 r852.1.changes.length,.i r852.1.earliest])),(44,some (.box [.ref 5880 g294.length r854.1.Backups.length,.ref 5881 0 r854.1.Changes.length,.i r854.1.Earliest])),(5800,R76 r852.1.records),(5801,R3 r852.1.refs),(5802,R64 r852.1.backups),(5803,R73 r852.1.changes),(5880,R35 (g294 ++ r854.1.Backups)),(5881,R46 r854.1.Changes)] (.nil ?_)
      replace h := isome h;rcases h with ⟨c858,h⟩ | ⟨c858,h⟩
      ·have c858_ : (r852.2.1 != 0) = true := c858
       refine .condT rfl c858_ ?_
       refine .seqR ?_
       refine .rr 1 ?_
       refine .tt [(6,.b false)] [] (.nil (.ret ?_))
       cases h
       refine PostJG.out (by simp) ?_
       rintro rfl
       refine blockQ.ret ?_
       refine thenQ_ps ?_
       refine blockQ.ret ?_
       refine thenQ_ps ?_
       refine PostIG.out (by simp) ?_
       rintro rfl
       refine blockQ.ret ?_
       refine PostJ.out (by simp) ?_
       rintro rfl
       refine thenQ_ps ?_
       exact FinC.rs
      have c858_ : (r852.2.1 != 0) = false := Bool.eq_false_iff.2 c858
      refine .condF rfl c858_ ?_
      refine .skip ?_
      cases h
      refine PostJG.next g294 ?_
      exact Sub.tt
     have c857_ : decide (r734 > 1099511627776) = false := decide_eq_false c857
     refine .condF rfl c857_ ?_
     replace h := bsome h;obtain ⟨v860,hj,h⟩ := h
     refine .cutR (mk 272 [] (L76 a1 a2 r734 r852.2.2 r852.2.1 ++ [(19,.d (.mpi .string false (r853.2.map (MKey.sk ∘ Prod.fst)) (r853.2.map ((cL cS71) ∘ Prod.snd)))),(45,.lsi a0),(46,.i (a0.length : Int)),(47,.i v298),(142,.b v860)]) [(9,some (.box [.ptr 44 0 0])),(40,some (.box [.ref 5800 0 r852.1.records.length,.ref 5801 0 r852.1.refs.length,.ref 5802 0 r852.1.backups.length,.ref 5803 0 r852.1.changes.length,.i r852.1.earliest])),(44,some (.box [.ref 5880 g294.length r854.1.Backups.length,.ref 5881 0 r854.1.Changes.length,.i r854.1.Earliest])),(5800,R76 r852.1.records),(5801,R3 r852.1.refs),(5802,R64 r852.1.backups),(5803,R73 r852.1.changes),(5880,R35 (g294 ++ r854.1.Backups)),(5881,R46 r854.1.Changes)]) ?_ ?_
     ·clear h;have h := hj;clear hj
      refine .rr 7 ?_
      refine .tt (L76 a1 a2 r734 r852.2.2 r852.2.1 ++ [(19,.d (.mpi .string false (r853.2.map (MKey.sk ∘ Prod.fst)) (r853.2.map ((cL cS71) ∘ Prod.snd)))),(45,.lsi a0),(46,.i (a0.length : Int)),(47,.i v298),(149,.b (decide ((r854.1.Backups.length : Int) ≥ 20)))]) [(9,some (.box [.ptr 44 0 0])),(40,some (.box [.ref 5800 0 r852.1.records.length,.ref 5801 0 r852.1.refs.length,.ref 5802 0 r852.1.backups.length,.ref 5803 0 r852.1.changes.length,.i r852.1.earliest])),(44,some (.box [.ref 5880 g294.length r854.1.Backups.length,.ref 5881 0 r854.1.Changes.length,.i r854.1.Earliest])),(5800,R76 r852.1.records),(5801,R3 r852.1.refs),(5802,R64 r852.1.backups),(5803,R73 r852.1.changes),(5880,R35 (g294 ++ r854.1.Backups)),(5881,R46 r854.1.Changes)] ?_
      replace h := isome h;rcases h with ⟨c861,h⟩ | ⟨c861,h⟩
      ·have c861_ : decide ((r854.1.Backups.length : Int) ≥ 20) = true := decide_eq_true c861
       refine .sub (.bool 149 rfl c861_) ?_
       refine .st (mk 272 [] (L76 a1 a2 r734 r852.2.2 r852.2.1 ++ [(19,.d (.mpi .string false (r853.2.map (MKey.sk ∘ Prod.fst)) (r853.2.map ((cL cS71) ∘ Prod.snd)))),(45,.lsi a0),(46,.i (a0.length : Int)),(47,.i v298),(149,.b true)]) [(9,some (.box [.ptr 44 0 0])),(40,some (.box [.ref 5800 0 r852.1.records.length,.ref 5801 0 r852.1.refs.length,.ref 5802 0 r852.1.backups.length,.ref 5803 0 r852.1.changes.length,.i r852.1.earliest])),(44,some (.box [.ref 5880 g294.length r854.1.Backups.length,.ref 5881 0 r854.1.Changes.length,.i r854.1.Earliest])),(5800,R76 r852.1.records),(5801,R3 r852.1.refs),(5802,R64 r852.1.backups),(5803,R73 r852.1.changes),(5880,R35 (g294 ++ r854.1.Backups)),(5881,R46 r854.1.Changes)]) ?_
       refine .rr 5 ?_
       refine .tt (L76 a1 a2 r734 r852.2.2 r852.2.1 ++ [(19,.d (.mpi .string false (r853.2.map (MKey.sk ∘ Prod.fst)) (r853.2.map ((cL cS71) ∘ Prod.snd)))),(45,.lsi a0),(46,.i (a0.length : Int)),(47,.i v298),(142,.b true),(150,.tup []),(151,.tup []),(152,.tup [])]) [(9,some (.box [.ptr 44 0 0])),(40,some (.box [.ref 5800 0 r852.1.records.length,.ref 5801 0 r852.1.refs.length,.ref 5802 0 r852.1.backups.length,.ref 5803 0 r852.1.changes.length,.i r852.1.earliest])),(44,some (.box [.ref 5880 g294.length r854.1.Backups.length,.ref 5881 0 r854.1.Changes.length,.i r854.1.Earliest])),(5800,R76 r852.1.records),(5801,R3 r852.1.refs),(5802,R64 r852.1.backups),(5803,R73 r852.1.changes),(5880,R35 (g294 ++ r854.1.Backups)),(5881,R46 r854.1.Changes)] ?_
       cases h
       exact .nil .tt
      have c861_ : decide ((r854.1.Backups.length : Int) ≥ 20) = false := decide_eq_false c861
      refine .sub (.bool 149 rfl c861_) ?_
      refine .st (mk 272 [] (L76 a1 a2 r734 r852.2.2 r852.2.1 ++ [(19,.d (.mpi .string false (r853.2.map (MKey.sk ∘ Prod.fst)) (r853.2.map ((cL cS71) ∘ Prod.snd)))),(45,.lsi a0),(46,.i (a0.length : Int)),(47,.i v298),(149,.b false)]) [(9,some (.box [.ptr 44 0 0])),(40,some (.box [.ref 5800 0 r852.1.records.length,.ref 5801 0 r852.1.refs.length,.ref 5802 0 r852.1.backups.length,.ref 5803 0 r852.1.changes.length,.i r852.1.earliest])),(44,some (.box [.ref 5880 g294.length r854.1.Backups.length,.ref 5881 0 r854.1.Changes.length,.i r854.1.Earliest])),(5800,R76 r852.1.records),(5801,R3 r852.1.refs),(5802,R64 r852.1.backups),(5803,R73 r852.1.changes),(5880,R35 (g294 ++ r854.1.Backups)),(5881,R46 r854.1.Changes)]) ?_
      refine .rr 1 ?_
      refine .tt (L76 a1 a2 r734 r852.2.2 r852.2.1 ++ [(19,.d (.mpi .string false (r853.2.map (MKey.sk ∘ Prod.fst)) (r853.2.map ((cL cS71) ∘ Prod.snd)))),(45,.lsi a0),(46,.i (a0.length : Int)),(47,.i v298),(149,.b false),(150,.d (.mpi .string false (r853.2.map (MKey.sk ∘ Prod.fst)) (r853.2.map ((cL cS71) ∘ Prod.snd))))]) [(9,some (.box [.ptr 44 0 0])),(40,some (.box [.ref 5800 0 r852.1.records.length,.ref 5801 0 r852.1.refs.length,.ref 5802 0 r852.1.backups.length,.ref 5803 0 r852.1.changes.length,.i r852.1.earliest])),(44,some (.box [.ref 5880 g294.length r854.1.Backups.length,.ref 5881 0 r854.1.Changes.length,.i r854.1.Earliest])),(5800,R76 r852.1.records),(5801,R3 r852.1.refs),(5802,R64 r852.1.backups),(5803,R73 r852.1.changes),(5880,R35 (g294 ++ r854.1.Backups)),(5881,R46 r854.1.Changes)] ?_
      refine .pureP (by simp) (pure_lenD rfl rfl rfl ty33 rfl (by simp <;> first | rfl | exact ⟨rfl,rfl,rfl,rfl⟩)) ?_
      refine .st (mk 272 [] (L76 a1 a2 r734 r852.2.2 r852.2.1 ++ [(19,.d (.mpi .string false (r853.2.map (MKey.sk ∘ Prod.fst)) (r853.2.map ((cL cS71) ∘ Prod.snd)))),(45,.lsi a0),(46,.i (a0.length : Int)),(47,.i v298),(149,.b false),(150,.d (.mpi .string false (r853.2.map (MKey.sk ∘ Prod.fst)) (r853.2.map ((cL cS71) ∘ Prod.snd)))),(151,.i (r853.2.length : Int))]) [(9,some (.box [.ptr 44 0 0])),(40,some (.box [.ref 5800 0 r852.1.records.length,.ref 5801 0 r852.1.refs.length,.ref 5802 0 r852.1.backups.length,.ref 5803 0 r852.1.changes.length,.i r852.1.earliest])),(44,some (.box [.ref 5880 g294.length r854.1.Backups.length,.ref 5881 0 r854.1.Changes.length,.i r854.1.Earliest])),(5800,R76 r852.1.records),(5801,R3 r852.1.refs),(5802,R64 r852.1.backups),(5803,R73 r852.1.changes),(5880,R35 (g294 ++ r854.1.Backups)),(5881,R46 r854.1.Changes)]) ?_
      refine .rr 3 ?_
      refine .tt (L76 a1 a2 r734 r852.2.2 r852.2.1 ++ [(19,.d (.mpi .string false (r853.2.map (MKey.sk ∘ Prod.fst)) (r853.2.map ((cL cS71) ∘ Prod.snd)))),(45,.lsi a0),(46,.i (a0.length : Int)),(47,.i v298),(142,.b (decide ((r853.2.length : Int) > 40))),(150,.d (.mpi .string false (r853.2.map (MKey.sk ∘ Prod.fst)) (r853.2.map ((cL cS71) ∘ Prod.snd)))),(151,.i (r853.2.length : Int)),(152,.b (decide ((r853.2.length : Int) > 40)))]) [(9,some (.box [.ptr 44 0 0])),(40,some (.box [.ref 5800 0 r852.1.records.length,.ref 5801 0 r852.1.refs.length,.ref 5802 0 r852.1.backups.length,.ref 5803 0 r852.1.changes.length,.i r852.1.earliest])),(44,some (.box [.ref 5880 g294.length r854.1.Backups.length,.ref 5881 0 r854.1.Changes.length,.i r854.1.Earliest])),(5800,R76 r852.1.records),(5801,R3 r852.1.refs),(5802,R64 r852.1.backups),(5803,R73 r852.1.changes),(5880,R35 (g294 ++ r854.1.Backups)),(5881,R46 r854.1.Changes)] ?_
      cases h
      exact .nil .tt
     clear hj
     replace h := isome h;rcases h with ⟨c862,h⟩ | ⟨c862,h⟩
     ·have c862_ : v860 = true := c862
      refine .condT rfl c862_ ?_
      refine .region ?_
      refine .rr 1 ?_
      refine .tt (L71 a1 a2 r852.2.2 ++ [(17,.i r852.2.1),(18,.i 0),(45,.lsi a0),(46,.i (a0.length : Int)),(47,.i v298)]) [(9,some (.box [.ptr 44 0 0])),(40,some (.box [.ref 5800 0 r852.1.records.length,.ref 5801 0 r852.1.refs.length,.ref 5802 0 r852.1.backups.length,.ref 5803 0 r852.1.changes.length,.i r852.1.earliest])),(44,some (.box [.ref 5880 g294.length r854.1.Backups.length,.ref 5881 0 r854.1.Changes.length,.i r854.1.Earliest])),(5800,R76 r852.1.records),(5801,R3 r852.1.refs),(5802,R64 r852.1.backups),(5803,R73 r852.1.changes),(5880,R35 (g294 ++ r854.1.Backups)),(5881,R46 r854.1.Changes)] (.nil (blockQ.normal (thenQ_normal (.seqR ?_))))
      refine .rr 3 ?_
      refine .tt (L71 a1 a2 r852.2.2 ++ [(45,.lsi a0),(46,.i (a0.length : Int)),(47,.i v298),(156,.b (r852.2.1 != 0))]) [(9,some (.box [.ptr 44 0 0])),(40,some (.box [.ref 5800 0 r852.1.records.length,.ref 5801 0 r852.1.refs.length,.ref 5802 0 r852.1.backups.length,.ref 5803 0 r852.1.changes.length,.i r852.1.earliest])),(44,some (.box [.ref 5880 g294.length r854.1.Backups.length,.ref 5881 0 r854.1.Changes.length,.i r854.1.Earliest])),(5800,R76 r852.1.records),(5801,R3 r852.1.refs),(5802,R64 r852.1.backups),(5803,R73 r852.1.changes),(5880,R35 (g294 ++ r854.1.Backups)),(5881,R46 r854.1.Changes)] (.nil ?_)
      replace h := isome h;rcases h with ⟨c863,h⟩ | ⟨c863,h⟩
      ·have c863_ : (r852.2.1 != 0) = true := c863
       refine .condT rfl c863_ ?_
       refine .seqR ?_
       refine .rr 1 ?_
       refine .tt [(6,.b false)] [] (.nil (.ret ?_))
       cases h
       refine PostJG.out (by simp) ?_
       rintro rfl
       refine blockQ.ret ?_
       refine thenQ_ps ?_
       refine blockQ.ret ?_
       refine thenQ_ps ?_
       refine PostIG.out (by simp) ?_
       rintro rfl
       refine blockQ.ret ?_
       refine PostJ.out (by simp) ?_
       rintro rfl
       refine thenQ_ps ?_
       exact FinC.rs
      have c863_ : (r852.2.1 != 0) = false := Bool.eq_false_iff.2 c863
      refine .condF rfl c863_ ?_
      refine .skip ?_
      cases h
      refine PostJG.next g294 ?_
      exact Sub.tt
     have c862_ : v860 = false := Bool.eq_false_iff.2 c862
     refine .condF rfl c862_ ?_
     refine .seqR ?_
     refine .rr 2 ?_
     refine .tt (L77 a1 a2 r734 r852.2.2 r852.2.1 ++ [(19,.d (.mpi .string false (r853.2.map (MKey.sk ∘ Prod.fst)) (r853.2.map ((cL cS71) ∘ Prod.snd)))),(45,.lsi a0),(46,.i (a0.length : Int)),(47,.i v298),(119,.ptr 44 0 0),(120,.d (.mpi .string false (r853.2.map (MKey.sk ∘ Prod.fst)) (r853.2.map ((cL cS71) ∘ Prod.snd))))]) [(9,some (.box [.ptr 44 0 0])),(40,some (.box [.ref 5800 0 r852.1.records.length,.ref 5801 0 r852.1.refs.length,.ref 5802 0 r852.1.backups.length,.ref 5803 0 r852.1.changes.length,.i r852.1.earliest])),(44,some (.box [.ref 5880 g294.length r854.1.Backups.length,.ref 5881 0 r854.1.Changes.length,.i r854.1.Earliest])),(5800,R76 r852.1.records),(5801,R3 r852.1.refs),(5802,R64 r852.1.backups),(5803,R73 r852.1.changes),(5880,R35 (g294 ++ r854.1.Backups)),(5881,R46 r854.1.Changes)] ?_
     replace h := bsome h;obtain ⟨r864,hr864,h⟩ := h
     refine .callF (p13 N r854.1 r853.2 g294 r864 hr864) [(44,1000),(5880,25000),(5881,25001)] [44] [(1000,44),(25000,5880),(25001,5881)] [(44,(.box [.ref 5880 g294.length r864.1.Backups.length,.ref 5881 0 r864.1.Changes.length,.d (.lit (.int .i64 r864.1.Earliest))])),(5880,(.arr 35 2 ((g294 ++ r864.1.Backups).map cS35))),(5881,(.arr 46 3 (r864.1.Changes.map cS46)))] (.d (.lit (.int .i64 r864.2))) (by simp) rfl (by simp <;> rfl) (by simp) (by simp) (by simp) (by simp) (by simp) ent13 (by simp) (by simp) (by simp) (by simp) (by simp) (by simp) ?_
     refine .st (mk 272 [] (L77 a1 a2 r734 r852.2.2 r852.2.1 ++ [(19,.d (.mpi .string false (r853.2.map (MKey.sk ∘ Prod.fst)) (r853.2.map ((cL cS71) ∘ Prod.snd)))),(45,.lsi a0),(46,.i (a0.length : Int)),(47,.i v298),(119,.ptr 44 0 0),(120,.d (.mpi .string false (r853.2.map (MKey.sk ∘ Prod.fst)) (r853.2.map ((cL cS71) ∘ Prod.snd)))),(121,.i r864.2)]) [(9,some (.box [.ptr 44 0 0])),(40,some (.box [.ref 5800 0 r852.1.records.length,.ref 5801 0 r852.1.refs.length,.ref 5802 0 r852.1.backups.length,.ref 5803 0 r852.1.changes.length,.i r852.1.earliest])),(44,some (.box [.ref 5880 g294.length r864.1.Backups.length,.ref 5881 0 r864.1.Changes.length,.i r864.1.Earliest])),(5800,R76 r852.1.records),(5801,R3 r852.1.refs),(5802,R64 r852.1.backups),(5803,R73 r852.1.changes),(5880,R35 (g294 ++ r864.1.Backups)),(5881,R46 r864.1.Changes)]) ?_
     refine .rr 1 ?_
     refine .tt (L77 a1 a2 r734 r852.2.2 r852.2.1 ++ [(18,.i r864.2),(19,.d (.mpi .string false (r853.2.map (MKey.sk ∘ Prod.fst)) (r853.2.map ((cL cS71) ∘ Prod.snd)))),(45,.lsi a0),(46,.i (a0.length : Int)),(47,.i v298)]) [(9,some (.box [.ptr 44 0 0])),(40,some (.box [.ref 5800 0 r852.1.records.length,.ref 5801 0 r852.1.refs.length,.ref 5802 0 r852.1.backups.length,.ref 5803 0 r852.1.changes.length,.i r852.1.earliest])),(44,some (.box [.ref 5880 g294.length r864.1.Backups.length,.ref 5881 0 r864.1.Changes.length,.i r864.1.Earliest])),(5800,R76 r852.1.records),(5801,R3 r852.1.refs),(5802,R64 r852.1.backups),(5803,R73 r852.1.changes),(5880,R35 (g294 ++ r864.1.Backups)),(5881,R46 r864.1.Changes)] (.nil ?_)
     replace h := bsome h;obtain ⟨l866,hl866,h⟩ := h
     obtain ⟨hl866a,hl866⟩ := appL_some hl866
     subst hl866
     try simp only [List.length_cons,List.length_nil,Nat.zero_add] at hl866a
     refine .lastAnyG [[],[],[1],[1,2],[1,2,3],[],[],[5,6],[5,6,7],[1,2,3,4,5,6,7,8],[0,1,2,3,4,5,6,7,8,9],[0,1,2,3,4,5,6,7,8,9,10],[0,1,2,3,4,5,6,7,8,9,10,11]] (fun (g865 : List S35) (b : Nat → Bool) => mk 272 [] [(1,.ss a1),(2,.ls71 a2),(8,.ptr 40 0 0),(9,.ptr 9 0 0),(12,.i r734),(15,.i r852.2.2),(16,.i 0),(17,.i r852.2.1),(18,.i r864.2),(19,.d (.mpi .string false (r853.2.map (MKey.sk ∘ Prod.fst)) (r853.2.map ((cL cS71) ∘ Prod.snd)))),(45,.lsi a0),(46,.i (a0.length : Int)),(47,.i v298),(122,(if b 0 then .ptr 44 0 0 else .junk)),(123,(if b 1 then .ptr 44 0 0 else .junk)),(124,(if b 2 then .ptr 44 0 0 else .junk)),(125,(if b 3 then .ptr 44 0 0 else .junk)),(126,(if b 9 then .junk else (if b 4 then .ref 5880 g865.length r864.1.Backups.length else .junk))),(127,(if b 5 then .i r734 else .junk)),(128,(if b 6 then .d (.mpi .string false (r853.2.map (MKey.sk ∘ Prod.fst)) (r853.2.map ((cL cS71) ∘ Prod.snd))) else .junk)),(129,(if b 7 then .agg [.i r734,.d (.mpi .string false (r853.2.map (MKey.sk ∘ Prod.fst)) (r853.2.map ((cL cS71) ∘ Prod.snd)))] else .junk)),(130,(if b 8 then .d (.sl ([(S35.mk r734 r853.2)].map cS35)) else .junk)),(131,(if b 9 then .ref 5880 g865.length ((r864.1.Backups ++ [(S35.mk r734 r853.2)]).length) else .junk)),(132,(if b 10 then .ptr 44 0 0 else .junk)),(133,(if b 11 then .ptr 44 0 0 else .junk))] [(9,some (.box [.ptr 44 0 0])),(40,some (.box [.ref 5800 0 r852.1.records.length,.ref 5801 0 r852.1.refs.length,.ref 5802 0 r852.1.backups.length,.ref 5803 0 r852.1.changes.length,.i r852.1.earliest])),(44,(if b 12 then some (.box [.ref 5880 g865.length ((r864.1.Backups ++ [(S35.mk r734 r853.2)]).length),.ref 5881 0 r864.1.Changes.length,.i r864.1.Earliest]) else (if b 9 then some (.box [.hole,.ref 5881 0 r864.1.Changes.length,.i r864.1.Earliest]) else some (.box [.ref 5880 g865.length r864.1.Backups.length,.ref 5881 0 r864.1.Changes.length,.i r864.1.Earliest])))),(5800,R76 r852.1.records),(5801,R3 r852.1.refs),(5802,R64 r852.1.backups),(5803,R73 r852.1.changes),(5880,(if b 9 then R35 (g865 ++ (r864.1.Backups ++ [(S35.mk r734 r853.2)])) else R35 (g865 ++ r864.1.Backups))),(5881,R46 r864.1.Changes)]) (fun (g865 : List S35) => mk 272 [] [(1,.ss a1),(2,.ls71 a2),(8,.ptr 40 0 0),(9,.ptr 9 0 0),(15,.i r852.2.2),(16,.i 0),(17,.i r852.2.1),(18,.i r864.2),(45,.lsi a0),(46,.i (a0.length : Int)),(47,.i v298)] [(9,some (.box [.ptr 44 0 0])),(40,some (.box [.ref 5800 0 r852.1.records.length,.ref 5801 0 r852.1.refs.length,.ref 5802 0 r852.1.backups.length,.ref 5803 0 r852.1.changes.length,.i r852.1.earliest])),(44,some (.box [.ref 5880 g865.length ((r864.1.Backups ++ [(S35.mk r734 r853.2)]).length),.ref 5881 0 r864.1.Changes.length,.i r864.1.Earliest])),(5800,R76 r852.1.records),(5801,R3 r852.1.refs),(5802,R64 r852.1.backups),(5803,R73 r852.1.changes),(5880,R35 (g865 ++ (r864.1.Backups ++ [(S35.mk r734 r853.2)]))),(5881,R46 r864.1.Changes)]) (by kernel_rfl) (by kernel_rfl) g294 Sub.tt (StepsG.cons ?_ (StepsG.cons ?_ (StepsG.cons ?_ (StepsG.cons ?_ (StepsG.cons ?_ (StepsG.cons ?_ (StepsG.cons ?_ (StepsG.cons ?_ (StepsG.cons ?_ (StepsG.cons ?_ (StepsG.cons ?_ (StepsG.cons ?_ (StepsG.cons ?_ (StepsG.nil)))))))))))))) ?_ ?_
     ·intro g865 b h0 ha hd
      have f10 : b 10 = false := hd 10 (by decide)
      have f11 : b 11 = false := hd 11 (by decide)
      have f12 : b 12 = false := hd 12 (by decide)
      refine .runK [130] 1 fun K k => ?_;simp [h0,f10,f11,f12];refine k _ _ ?_;clear k K
      exact .nil ⟨g865,Sub.table (by simp [f10,f11]) (by simp [f12])⟩
     ·intro g865 b h0 ha hd
      have f2 : b 2 = false := hd 2 (by decide)
      have f3 : b 3 = false := hd 3 (by decide)
      have f4 : b 4 = false := hd 4 (by decide)
      have f9 : b 9 = false := hd 9 (by decide)
      have f10 : b 10 = false := hd 10 (by decide)
      have f11 : b 11 = false := hd 11 (by decide)
      have f12 : b 12 = false := hd 12 (by decide)
      refine .runK [130] 1 fun K k => ?_;simp [h0,f2,f3,f4,f9,f10,f11,f12];refine k _ _ ?_;clear k K
      exact .nil ⟨g865,Sub.table (by simp [f2,f3,f4,f9,f10,f11]) (by simp [f9,f12])⟩
     ·intro g865 b h0 ha hd
      have t1 : b 1 = true := ha 1 (by decide)
      have f3 : b 3 = false := hd 3 (by decide)
      have f4 : b 4 = false := hd 4 (by decide)
      have f9 : b 9 = false := hd 9 (by decide)
      have f10 : b 10 = false := hd 10 (by decide)
      have f11 : b 11 = false := hd 11 (by decide)
      have f12 : b 12 = false := hd 12 (by decide)
      refine .runK [130] 1 fun K k => ?_;simp [h0,t1,f3,f4,f9,f10,f11,f12];refine k _ _ ?_;clear k K
      exact .nil ⟨g865,Sub.table (by simp [t1,f3,f4,f9,f10,f11]) (by simp [f9,f12])⟩
     ·intro g865 b h0 ha hd
      have t1 : b 1 = true := ha 1 (by decide)
      have t2 : b 2 = true := ha 2 (by decide)
      have f4 : b 4 = false := hd 4 (by decide)
      have f9 : b 9 = false := hd 9 (by decide)
      have f10 : b 10 = false := hd 10 (by decide)
      have f11 : b 11 = false := hd 11 (by decide)
      have f12 : b 12 = false := hd 12 (by decide)
      refine .runK [130] 1 fun K k => ?_;simp [h0,t1,t2,f4,f9,f10,f11,f12];refine k _ _ ?_;clear k K
      exact .nil ⟨g865,Sub.table (by simp [t1,t2,f4,f9,f10,f11]) (by simp [f9,f12])⟩
     ·intro g865 b h0 ha hd
      have t1 : b 1 = true := ha 1 (by decide)
      have t2 : b 2 = true := ha 2 (by decide)
      have t3 : b 3 = true := ha 3 (by decide)
      have f9 : b 9 = false := hd 9 (by decide)
      have f10 : b 10 = false := hd 10 (by decide)
      have f11 : b 11 = false := hd 11 (by decide)
      have f12 : b 12 = false := hd 12 (by decide)
      refine .runK [130] 1 fun K k => ?_;simp [h0,t1,t2,t3,f9,f10,f11,f12];refine k _ _ ?_;clear k K
      exact .nil ⟨g865,Sub.table (by simp [t1,t2,t3,f9,f10,f11]) (by simp [f9,f12])⟩
     ·intro g865 b h0 ha hd
      have f7 : b 7 = false := hd 7 (by decide)
      have f8 : b 8 = false := hd 8 (by decide)
      have f9 : b 9 = false := hd 9 (by decide)
      have f10 : b 10 = false := hd 10 (by decide)
      have f11 : b 11 = false := hd 11 (by decide)
      have f12 : b 12 = false := hd 12 (by decide)
      refine .runK [130] 1 fun K k => ?_;simp [h0,f7,f8,f9,f10,f11,f12];refine k _ _ ?_;clear k K
      exact .nil ⟨g865,Sub.table (by simp [f7,f8,f9,f10,f11]) (by simp [f9,f12])⟩
     ·intro g865 b h0 ha hd
      have f7 : b 7 = false := hd 7 (by decide)
      have f8 : b 8 = false := hd 8 (by decide)
      have f9 : b 9 = false := hd 9 (by decide)
      have f10 : b 10 = false := hd 10 (by decide)
      have f11 : b 11 = false := hd 11 (by decide)
      have f12 : b 12 = false := hd 12 (by decide)
      refine .runK [130] 1 fun K k => ?_;simp [h0,f7,f8,f9,f10,f11,f12];refine k _ _ ?_;clear k K
      exact .nil ⟨g865,Sub.table (by simp [f7,f8,f9,f10,f11]) (by simp [f9,f12])⟩
     ·intro g865 b h0 ha hd
      have t5 : b 5 = true := ha 5 (by decide)
      have t6 : b 6 = true := ha 6 (by decide)
      have f8 : b 8 = false := hd 8 (by decide)
      have f9 : b 9 = false := hd 9 (by decide)
      have f10 : b 10 = false := hd 10 (by decide)
      have f11 : b 11 = false := hd 11 (by decide)
      have f12 : b 12 = false := hd 12 (by decide)
      refine .runK [130] 1 fun K k => ?_;simp [h0,t5,t6,f8,f9,f10,f11,f12];refine k _ _ ?_;clear k K
      exact .nil ⟨g865,Sub.table (by simp [t5,t6,f8,f9,f10,f11]) (by simp [f9,f12])⟩
     ·intro g865 b h0 ha hd
      have t5 : b 5 = true := ha 5 (by decide)
      have t6 : b 6 = true := ha 6 (by decide)
      have t7 : b 7 = true := ha 7 (by decide)
      have f9 : b 9 = false := hd 9 (by decide)
      have f10 : b 10 = false := hd 10 (by decide)
      have f11 : b 11 = false := hd 11 (by decide)
      have f12 : b 12 = false := hd 12 (by decide)
      refine .runK [130] 1 fun K k => ?_;simp [h0,t5,t6,t7,f9,f10,f11,f12];refine k _ _ ?_;clear k K
      exact .nil ⟨g865,Sub.table (by simp [t5,t6,t7,f9,f10,f11]) (by simp [f9,f12])⟩
     ·intro g865 b h0 ha hd
      have t1 : b 1 = true := ha 1 (by decide)
      have t2 : b 2 = true := ha 2 (by decide)
      have t3 : b 3 = true := ha 3 (by decide)
      have t4 : b 4 = true := ha 4 (by decide)
      have t5 : b 5 = true := ha 5 (by decide)
      have t6 : b 6 = true := ha 6 (by decide)
      have t7 : b 7 = true := ha 7 (by decide)
      have t8 : b 8 = true := ha 8 (by decide)
      have f10 : b 10 = false := hd 10 (by decide)
      have f11 : b 11 = false := hd 11 (by decide)
      have f12 : b 12 = false := hd 12 (by decide)
      simp only [h0,t1,t2,t3,t4,t5,t6,t7,t8,f10,f11,f12,if_true,if_false,Bool.false_eq_true]
      refine Chain.appFront cS35 g865 r864.1.Backups [(S35.mk r734 r853.2)] (id := 5880) (te := ⟨_,2,16,_⟩) (by simp) rfl rfl rfl rfl ty36 rfl ty35 (by simp) (by simp) (by simp) (by simp [srcV]) (fun _ => rfl) (by decide) (by decide) rfl (by simp;omega) fun gx => ?_
      exact .nil ⟨gx,by simp [t1,t2,t3,t5,t6,t7,t8,f10,f11,f12];exact Sub.table (by simp) (by simp)⟩
     ·intro g865 b h0 ha hd
      have t0 : b 0 = true := ha 0 (by decide)
      have t1 : b 1 = true := ha 1 (by decide)
      have t2 : b 2 = true := ha 2 (by decide)
      have t3 : b 3 = true := ha 3 (by decide)
      have t4 : b 4 = true := ha 4 (by decide)
      have t5 : b 5 = true := ha 5 (by decide)
      have t6 : b 6 = true := ha 6 (by decide)
      have t7 : b 7 = true := ha 7 (by decide)
      have t8 : b 8 = true := ha 8 (by decide)
      have t9 : b 9 = true := ha 9 (by decide)
      have f11 : b 11 = false := hd 11 (by decide)
      have f12 : b 12 = false := hd 12 (by decide)
      refine .runK [130] 1 fun K k => ?_;simp [h0,t0,t1,t2,t3,t5,t6,t7,t8,t9,f11,f12];refine k _ _ ?_;clear k K
      exact .nil ⟨g865,Sub.table (by simp [t0,t1,t2,t3,t5,t6,t7,t8,t9,f11]) (by simp [t9,f12])⟩
     ·intro g865 b h0 ha hd
      have t0 : b 0 = true := ha 0 (by decide)
      have t1 : b 1 = true := ha 1 (by decide)
      have t2 : b 2 = true := ha 2 (by decide)
      have t3 : b 3 = true := ha 3 (by decide)
      have t4 : b 4 = true := ha 4 (by decide)
      have t5 : b 5 = true := ha 5 (by decide)
      have t6 : b 6 = true := ha 6 (by decide)
      have t7 : b 7 = true := ha 7 (by decide)
      have t8 : b 8 = true := ha 8 (by decide)
      have t9 : b 9 = true := ha 9 (by decide)
      have t10 : b 10 = true := ha 10 (by decide)
      have f12 : b 12 = false := hd 12 (by decide)
      refine .runK [130] 1 fun K k => ?_;simp [h0,t0,t1,t2,t3,t5,t6,t7,t8,t9,t10,f12];refine k _ _ ?_;clear k K
      exact .nil ⟨g865,Sub.table (by simp [t0,t1,t2,t3,t5,t6,t7,t8,t9,t10]) (by simp [t9,f12])⟩
     ·intro g865 b h0 ha hd
      have t0 : b 0 = true := ha 0 (by decide)
      have t1 : b 1 = true := ha 1 (by decide)
      have t2 : b 2 = true := ha 2 (by decide)
      have t3 : b 3 = true := ha 3 (by decide)
      have t4 : b 4 = true := ha 4 (by decide)
      have t5 : b 5 = true := ha 5 (by decide)
      have t6 : b 6 = true := ha 6 (by decide)
      have t7 : b 7 = true := ha 7 (by decide)
      have t8 : b 8 = true := ha 8 (by decide)
      have t9 : b 9 = true := ha 9 (by decide)
      have t10 : b 10 = true := ha 10 (by decide)
      have t11 : b 11 = true := ha 11 (by decide)
      refine .runK [130] 1 fun K k => ?_;simp [h0,t0,t1,t2,t3,t5,t6,t7,t8,t9,t10,t11];refine k _ _ ?_;clear k K
      exact .nil ⟨g865,Sub.table (by simp [t0,t1,t2,t3,t5,t6,t7,t8,t9,t10,t11]) (by simp [t9])⟩
     ·intro g865 b hb
      have t0 := hb 0 (by decide)
      have t1 := hb 1 (by decide)
      have t2 := hb 2 (by decide)
      have t3 := hb 3 (by decide)
      have t4 := hb 4 (by decide)
      have t5 := hb 5 (by decide)
      have t6 := hb 6 (by decide)
      have t7 := hb 7 (by decide)
      have t8 := hb 8 (by decide)
      have t9 := hb 9 (by decide)
      have t10 := hb 10 (by decide)
      have t11 := hb 11 (by decide)
      have t12 := hb 12 (by decide)
      exact Sub.table (by simp [t0,t1,t2,t3,t5,t6,t7,t8,t9,t10,t11]) (by simp [t9,t12])
     intro g865
     refine blockQ.normal (thenQ_normal (.seqR ?_))
     refine .rr 3 ?_
     refine .tt (L72 a1 a2 r852.2.2 a0 a0.length v298 ++ [(156,.b (r852.2.1 != r864.2))]) [(9,some (.box [.ptr 44 0 0])),(40,some (.box [.ref 5800 0 r852.1.records.length,.ref 5801 0 r852.1.refs.length,.ref 5802 0 r852.1.backups.length,.ref 5803 0 r852.1.changes.length,.i r852.1.earliest])),(44,some (.box [.ref 5880 g865.length ((r864.1.Backups ++ [(S35.mk r734 r853.2)]).length),.ref 5881 0 r864.1.Changes.length,.i r864.1.Earliest])),(5800,R76 r852.1.records),(5801,R3 r852.1.refs),(5802,R64 r852.1.backups),(5803,R73 r852.1.changes),(5880,R35 (g865 ++ (r864.1.Backups ++ [(S35.mk r734 r853.2)]))),(5881,R46 r864.1.Changes)] (.nil ?_)
     replace h := isome h;rcases h with ⟨c867,h⟩ | ⟨c867,h⟩
     ·have c867_ : (r852.2.1 != r864.2) = true := c867
      refine .condT rfl c867_ ?_
      refine .seqR ?_
      refine .rr 1 ?_
      refine .tt [(6,.b false)] [] (.nil (.ret ?_))
      cases h
      refine PostJG.out (by simp) ?_
      rintro rfl
      refine blockQ.ret ?_
      refine thenQ_ps ?_
      refine blockQ.ret ?_
      refine thenQ_ps ?_
      refine PostIG.out (by simp) ?_
      rintro rfl
      refine blockQ.ret ?_
      refine PostJ.out (by simp) ?_
      rintro rfl
      refine thenQ_ps ?_
      exact FinC.rs
     have c867_ : (r852.2.1 != r864.2) = false := Bool.eq_false_iff.2 c867
     refine .condF rfl c867_ ?_
     refine .skip ?_
     cases h
     refine PostJG.next g865 ?_
     exact Sub.tt
    have c851_ : (r739 == 2) = false := Bool.eq_false_iff.2 c851
    refine .condF rfl c851_ ?_
    refine .seqR ?_
    refine .rr 2 ?_
    refine .tt (L73 a1 a2 r734 a0 a0.length v298 ++ [(62,.i r739),(157,.b (r739 == 3))]) [(9,some (.box [.ptr 44 0 0])),(40,some (.box [.ref 5800 0 l289.length,.ref 5801 0 l290.length,.ref 5802 0 l291.length,.ref 5803 0 l292.length,.i v293])),(44,some (.box [.ref 5880 g294.length l295.length,.ref 5881 0 l296.length,.i v297])),(5800,R76 l289),(5801,R3 l290),(5802,R64 l291),(5803,R73 l292),(5880,R35 (g294 ++ l295)),(5881,R46 l296)] (.nil ?_)
    replace h := isome h;rcases h with ⟨c868,h⟩ | ⟨c868,h⟩
    ·have c868_ : (r739 == 3) = true := c868
     refine .condT rfl c868_ ?_
     refine .seqR ?_
     refine .rr 2 ?_
     refine .tt [(1,.ss a1),(2,.ls71 a2),(8,.ptr 40 0 0),(9,.ptr 9 0 0),(12,.i r734),(45,.lsi a0),(46,.i (a0.length : Int)),(47,.i v298),(159,.ptr 40 0 0),(160,.i r734)] [(9,some (.box [.ptr 44 0 0])),(40,some (.box [.ref 5800 0 l289.length,.ref 5801 0 l290.length,.ref 5802 0 l291.length,.ref 5803 0 l292.length,.i v293])),(44,some (.box [.ref 5880 g294.length l295.length,.ref 5881 0 l296.length,.i v297])),(5800,R76 l289),(5801,R3 l290),(5802,R64 l291),(5803,R73 l292),(5880,R35 (g294 ++ l295)),(5881,R46 l296)] ?_
     replace h := bsome h;obtain ⟨r869,hr869,h⟩ := h
     refine .callF (p14 N (S68.mk l289 l290 l291 l292 v293) r734 r869 hr869) [(40,1000),(5800,25000),(5801,25001),(5802,25002),(5803,25003)] [40] [(1000,40),(25000,5800),(25001,5801),(25002,5802),(25003,5803)] [(40,(.box [.ref 5800 0 r869.1.records.length,.ref 5801 0 r869.1.refs.length,.ref 5802 0 r869.1.backups.length,.ref 5803 0 r869.1.changes.length,.i r869.1.earliest])),(5800,(.arr 76 2 (r869.1.records.map cS76))),(5801,(.arr 3 1 (r869.1.refs.map (cI .i64)))),(5802,(.arr 64 2 (r869.1.backups.map cS64))),(5803,(.arr 73 3 (r869.1.changes.map cS73)))] (.i r869.2) (by simp) rfl (by simp <;> rfl) (by simp) (by simp) (by simp) (by simp) (by simp) ent14 (by simp) (by simp) (by simp) (by simp) (by simp) (by simp) ?_
     refine .st (mk 272 [] [(1,.ss a1),(2,.ls71 a2),(8,.ptr 40 0 0),(9,.ptr 9 0 0),(12,.i r734),(45,.lsi a0),(46,.i (a0.length : Int)),(47,.i v298),(159,.ptr 40 0 0),(160,.i r734),(161,.i r869.2)] [(9,some (.box [.ptr 44 0 0])),(40,some (.box [.ref 5800 0 r869.1.records.length,.ref 5801 0 r869.1.refs.length,.ref 5802 0 r869.1.backups.length,.ref 5803 0 r869.1.changes.length,.i r869.1.earliest])),(44,some (.box [.ref 5880 g294.length l295.length,.ref 5881 0 l296.length,.i v297])),(5800,R76 r869.1.records),(5801,R3 r869.1.refs),(5802,R64 r869.1.backups),(5803,R73 r869.1.changes),(5880,R35 (g294 ++ l295)),(5881,R46 l296)]) ?_
     refine .rr 1 ?_
     refine .tt [(1,.ss a1),(2,.ls71 a2),(8,.ptr 40 0 0),(9,.ptr 9 0 0),(12,.i r734),(15,.i r869.2),(45,.lsi a0),(46,.i (a0.length : Int)),(47,.i v298)] [(9,some (.box [.ptr 44 0 0])),(40,some (.box [.ref 5800 0 r869.1.records.length,.ref 5801 0 r869.1.refs.length,.ref 5802 0 r869.1.backups.length,.ref 5803 0 r869.1.changes.length,.i r869.1.earliest])),(44,some (.box [.ref 5880 g294.length l295.length,.ref 5881 0 l296.length,.i v297])),(5800,R76 r869.1.records),(5801,R3 r869.1.refs),(5802,R64 r869.1.backups),(5803,R73 r869.1.changes),(5880,R35 (g294 ++ l295)),(5881,R46 l296)] (.nil (.seqR ?_))
     refine .rr 1 ?_
     refine .tt (L78 a1 a2 r734 r869.2 a0 a0.length v298) [(9,some (.box [.ptr 44 0 0])),(40,some (.box [.ref 5800 0 r869.1.records.length,.ref 5801 0 r869.1.refs.length,.ref 5802 0 r869.1.backups.length,.ref 5803 0 r869.1.changes.length,.i r869.1.earliest])),(44,some (.box [.ref 5880 g294.length l295.length,.ref 5881 0 l296.length,.i v297])),(5800,R76 r869.1.records),(5801,R3 r869.1.refs),(5802,R64 r869.1.backups),(5803,R73 r869.1.changes),(5880,R35 (g294 ++ l295)),(5881,R46 l296)] (.nil ?_)
     replace h := bsome h;obtain ⟨v871,hj,h⟩ := h
     refine .cutR (mk 272 [] (L78 a1 a2 r734 r869.2 a0 a0.length v298 ++ [(167,.b v871)]) [(9,some (.box [.ptr 44 0 0])),(40,some (.box [.ref 5800 0 r869.1.records.length,.ref 5801 0 r869.1.refs.length,.ref 5802 0 r869.1.backups.length,.ref 5803 0 r869.1.changes.length,.i r869.1.earliest])),(44,some (.box [.ref 5880 g294.length l295.length,.ref 5881 0 l296.length,.i v297])),(5800,R76 r869.1.records),(5801,R3 r869.1.refs),(5802,R64 r869.1.backups),(5803,R73 r869.1.changes),(5880,R35 (g294 ++ l295)),(5881,R46 l296)]) ?_ ?_
     ·clear h;have h := hj;clear hj
      refine .rr 3 ?_
      refine .tt (L78 a1 a2 r734 r869.2 a0 a0.length v298 ++ [(164,.b (decide (r734 ≥ 0)))]) [(9,some (.box [.ptr 44 0 0])),(40,some (.box [.ref 5800 0 r869.1.records.length,.ref 5801 0 r869.1.refs.length,.ref 5802 0 r869.1.backups.length,.ref 5803 0 r869.1.changes.length,.i r869.1.earliest])),(44,some (.box [.ref 5880 g294.length l295.length,.ref 5881 0 l296.length,.i v297])),(5800,R76 r869.1.records),(5801,R3 r869.1.refs),(5802,R64 r869.1.backups),(5803,R73 r869.1.changes),(5880,R35 (g294 ++ l295)),(5881,R46 l296)] ?_
      replace h := isome h;rcases h with ⟨c872,h⟩ | ⟨c872,h⟩
      ·have c872_ : decide (r734 ≥ 0) = true := decide_eq_true c872
       refine .sub (.bool 164 rfl c872_) ?_
       refine .st (mk 272 [] (L78 a1 a2 r734 r869.2 a0 a0.length v298 ++ [(164,.b true)]) [(9,some (.box [.ptr 44 0 0])),(40,some (.box [.ref 5800 0 r869.1.records.length,.ref 5801 0 r869.1.refs.length,.ref 5802 0 r869.1.backups.length,.ref 5803 0 r869.1.changes.length,.i r869.1.earliest])),(44,some (.box [.ref 5880 g294.length l295.length,.ref 5881 0 l296.length,.i v297])),(5800,R76 r869.1.records),(5801,R3 r869.1.refs),(5802,R64 r869.1.backups),(5803,R73 r869.1.changes),(5880,R35 (g294 ++ l295)),(5881,R46 l296)]) ?_
       refine .rr 3 ?_
       refine .tt (L78 a1 a2 r734 r869.2 a0 a0.length v298 ++ [(165,.i r734),(166,.b (decide (r734 ≤ 1099511627776))),(167,.b (decide (r734 ≤ 1099511627776)))]) [(9,some (.box [.ptr 44 0 0])),(40,some (.box [.ref 5800 0 r869.1.records.length,.ref 5801 0 r869.1.refs.length,.ref 5802 0 r869.1.backups.length,.ref 5803 0 r869.1.changes.length,.i r869.1.earliest])),(44,some (.box [.ref 5880 g294.length l295.length,.ref 5881 0 l296.length,.i v297])),(5800,R76 r869.1.records),(5801,R3 r869.1.refs),(5802,R64 r869.1.backups),(5803,R73 r869.1.changes),(5880,R35 (g294 ++ l295)),(5881,R46 l296)] ?_
       cases h
       exact .nil .tt
      have c872_ : decide (r734 ≥ 0) = false := decide_eq_false c872
      refine .sub (.bool 164 rfl c872_) ?_
      refine .st (mk 272 [] (L78 a1 a2 r734 r869.2 a0 a0.length v298 ++ [(164,.b false)]) [(9,some (.box [.ptr 44 0 0])),(40,some (.box [.ref 5800 0 r869.1.records.length,.ref 5801 0 r869.1.refs.length,.ref 5802 0 r869.1.backups.length,.ref 5803 0 r869.1.changes.length,.i r869.1.earliest])),(44,some (.box [.ref 5880 g294.length l295.length,.ref 5881 0 l296.length,.i v297])),(5800,R76 r869.1.records),(5801,R3 r869.1.refs),(5802,R64 r869.1.backups),(5803,R73 r869.1.changes),(5880,R35 (g294 ++ l295)),(5881,R46 l296)]) ?_
      refine .rr 3 ?_
      refine .tt (L78 a1 a2 r734 r869.2 a0 a0.length v298 ++ [(165,.tup []),(166,.tup []),(167,.b false)]) [(9,some (.box [.ptr 44 0 0])),(40,some (.box [.ref 5800 0 r869.1.records.length,.ref 5801 0 r869.1.refs.length,.ref 5802 0 r869.1.backups.length,.ref 5803 0 r869.1.changes.length,.i r869.1.earliest])),(44,some (.box [.ref 5880 g294.length l295.length,.ref 5881 0 l296.length,.i v297])),(5800,R76 r869.1.records),(5801,R3 r869.1.refs),(5802,R64 r869.1.backups),(5803,R73 r869.1.changes),(5880,R35 (g294 ++ l295)),(5881,R46 l296)] ?_
      cases h
      exact .nil .tt
     clear hj
     replace h := isome h;rcases h with ⟨c873,h⟩ | ⟨c873,h⟩
     ·have c873_ : v871 = true := c873
      refine .condT rfl c873_ ?_
      refine .seqR ?_
      refine .rr 1 ?_
      refine .tt (L79 a1 a2 r734 r869.2 a0 a0.length v298) [(9,some (.box [.ptr 44 0 0])),(40,some (.box [.ref 5800 0 r869.1.records.length,.ref 5801 0 r869.1.refs.length,.ref 5802 0 r869.1.backups.length,.ref 5803 0 r869.1.changes.length,.i r869.1.earliest])),(44,some (.box [.ref 5880 g294.length l295.length,.ref 5881 0 l296.length,.i v297])),(5800,R76 r869.1.records),(5801,R3 r869.1.refs),(5802,R64 r869.1.backups),(5803,R73 r869.1.changes),(5880,R35 (g294 ++ l295)),(5881,R46 l296)] (.nil ?_)
      refine .seqNG (fun (g905 : List S35) (l906 : List S35) => mk 272 [] (L72 a1 a2 r869.2 a0 a0.length v298) [(9,some (.box [.ptr 44 0 0])),(40,some (.box [.ref 5800 0 r869.1.records.length,.ref 5801 0 r869.1.refs.length,.ref 5802 0 r869.1.backups.length,.ref 5803 0 r869.1.changes.length,.i r869.1.earliest])),(44,some (.box [.ref 5880 g905.length l906.length,.ref 5881 0 l296.length,.i v297])),(5800,R76 r869.1.records),(5801,R3 r869.1.refs),(5802,R64 r869.1.backups),(5803,R73 r869.1.changes),(5880,R35 (g905 ++ l906)),(5881,R46 l296)]) h ?_ ?_ <;> clear h
      ·intro o h
       refine .block ?_
       refine .iterG (fun (g883 : List S35) (l884 : List S35) => mk 272 [] (L79 a1 a2 r734 r869.2 a0 a0.length v298) [(9,some (.box [.ptr 44 0 0])),(40,some (.box [.ref 5800 0 r869.1.records.length,.ref 5801 0 r869.1.refs.length,.ref 5802 0 r869.1.backups.length,.ref 5803 0 r869.1.changes.length,.i r869.1.earliest])),(44,some (.box [.ref 5880 g883.length l884.length,.ref 5881 0 l296.length,.i v297])),(5800,R76 r869.1.records),(5801,R3 r869.1.refs),(5802,R64 r869.1.backups),(5803,R73 r869.1.changes),(5880,R35 (g883 ++ l884)),(5881,R46 l296)]) h g294 Sub.tt ?_
       clear h
       intro g883
       rintro l884 x h
       refine .seq ?_
       replace h := bsome h;obtain ⟨v909,hj,h⟩ := h
       refine .cutR (mk 272 [] (L79 a1 a2 r734 r869.2 a0 a0.length v298 ++ [(184,.b v909)]) [(9,some (.box [.ptr 44 0 0])),(40,some (.box [.ref 5800 0 r869.1.records.length,.ref 5801 0 r869.1.refs.length,.ref 5802 0 r869.1.backups.length,.ref 5803 0 r869.1.changes.length,.i r869.1.earliest])),(44,some (.box [.ref 5880 g883.length l884.length,.ref 5881 0 l296.length,.i v297])),(5800,R76 r869.1.records),(5801,R3 r869.1.refs),(5802,R64 r869.1.backups),(5803,R73 r869.1.changes),(5880,R35 (g883 ++ l884)),(5881,R46 l296)]) ?_ ?_
       ·clear h;have h := hj;clear hj
        refine .rr 7 ?_
        refine .tt (L79 a1 a2 r734 r869.2 a0 a0.length v298 ++ [(174,.b (decide ((l884.length : Int) > 1)))]) [(9,some (.box [.ptr 44 0 0])),(40,some (.box [.ref 5800 0 r869.1.records.length,.ref 5801 0 r869.1.refs.length,.ref 5802 0 r869.1.backups.length,.ref 5803 0 r869.1.changes.length,.i r869.1.earliest])),(44,some (.box [.ref 5880 g883.length l884.length,.ref 5881 0 l296.length,.i v297])),(5800,R76 r869.1.records),(5801,R3 r869.1.refs),(5802,R64 r869.1.backups),(5803,R73 r869.1.changes),(5880,R35 (g883 ++ l884)),(5881,R46 l296)] ?_
        replace h := isome h;rcases h with ⟨c910,h⟩ | ⟨c910,h⟩
        ·have c910_ : decide ((l884.length : Int) > 1) = true := decide_eq_true c910
         refine .sub (.bool 174 rfl c910_) ?_
         refine .st (mk 272 [] (L79 a1 a2 r734 r869.2 a0 a0.length v298 ++ [(174,.b true)]) [(9,some (.box [.ptr 44 0 0])),(40,some (.box [.ref 5800 0 r869.1.records.length,.ref 5801 0 r869.1.refs.length,.ref 5802 0 r869.1.backups.length,.ref 5803 0 r869.1.changes.length,.i r869.1.earliest])),(44,some (.box [.ref 5880 g883.length l884.length,.ref 5881 0 l296.length,.i v297])),(5800,R76 r869.1.records),(5801,R3 r869.1.refs),(5802,R64 r869.1.backups),(5803,R73 r869.1.changes),(5880,R35 (g883 ++ l884)),(5881,R46 l296)]) ?_
         replace h := bsome h;obtain ⟨x911,hx911,h⟩ := h
         obtain ⟨hx911,hx911b,hx911c⟩ := idx_someN (n := 1) hx911
         have hx911d : (1 : Int) < (l884.length : Int) := by omega
         refine .rk 10 fun K k => ?_;simp [hx911b,hx911c,hx911d];refine k ?_
         refine .tt (L79 a1 a2 r734 r869.2 a0 a0.length v298 ++ [(175,.ptr 44 0 0),(176,.ptr 44 0 0),(177,.ptr 44 0 0),(178,.ref 5880 g883.length l884.length),(179,.ptr 5880 (g883.length + 1) 0),(180,.ptr 5880 (g883.length + 1) 0),(181,.i x911.Time),(182,.i r734),(183,.b (decide (x911.Time ≤ r734))),(184,.b (decide (x911.Time ≤ r734)))]) [(9,some (.box [.ptr 44 0 0])),(40,some (.box [.ref 5800 0 r869.1.records.length,.ref 5801 0 r869.1.refs.length,.ref 5802 0 r869.1.backups.length,.ref 5803 0 r869.1.changes.length,.i r869.1.earliest])),(44,some (.box [.ref 5880 g883.length l884.length,.ref 5881 0 l296.length,.i v297])),(5800,R76 r869.1.records),(5801,R3 r869.1.refs),(5802,R64 r869.1.backups),(5803,R73 r869.1.changes),(5880,R35 (g883 ++ l884)),(5881,R46 l296)] ?_
         cases h
         exact .nil .tt
        have c910_ : decide ((l884.length : Int) > 1) = false := decide_eq_false c910
        refine .sub (.bool 174 rfl c910_) ?_
        refine .st (mk 272 [] (L79 a1 a2 r734 r869.2 a0 a0.length v298 ++ [(174,.b false)]) [(9,some (.box [.ptr 44 0 0])),(40,some (.box [.ref 5800 0 r869.1.records.length,.ref 5801 0 r869.1.refs.length,.ref 5802 0 r869.1.backups.length,.ref 5803 0 r869.1.changes.length,.i r869.1.earliest])),(44,some (.box [.ref 5880 g883.length l884.length,.ref 5881 0 l296.length,.i v297])),(5800,R76 r869.1.records),(5801,R3 r869.1.refs),(5802,R64 r869.1.backups),(5803,R73 r869.1.changes),(5880,R35 (g883 ++ l884)),(5881,R46 l296)]) ?_
        refine .rr 10 ?_
        refine .tt (L79 a1 a2 r734 r869.2 a0 a0.length v298 ++ [(175,.tup []),(176,.tup []),(177,.tup []),(178,.tup []),(179,.tup []),(180,.tup []),(181,.tup []),(182,.tup []),(183,.tup []),(184,.b false)]) [(9,some (.box [.ptr 44 0 0])),(40,some (.box [.ref 5800 0 r869.1.records.length,.ref 5801 0 r869.1.refs.length,.ref 5802 0 r869.1.backups.length,.ref 5803 0 r869.1.changes.length,.i r869.1.earliest])),(44,some (.box [.ref 5880 g883.length l884.length,.ref 5881 0 l296.length,.i v297])),(5800,R76 r869.1.records),(5801,R3 r869.1.refs),(5802,R64 r869.1.backups),(5803,R73 r869.1.changes),(5880,R35 (g883 ++ l884)),(5881,R46 l296)] ?_
        cases h
        exact .nil .tt
       clear hj
       replace h := isome h;rcases h with ⟨c912,h⟩ | ⟨c912,h⟩
       ·have c912_ : v909 = true := c912
        refine .condT rfl c912_ ?_
        refine .skip (thenQ_normal (.block ?_))
        replace h := bsome h;obtain ⟨n913,gn913,h⟩ := h
        obtain ⟨hn913a,hn913⟩ := natI_some gn913
        clear gn913
        replace h := lsome h;obtain ⟨l914,gl914,h⟩ := h
        obtain ⟨g915,hg915a,hg915b⟩ : ∃ g : List S35,g.length = g883.length + n913 ∧ g.map cS35 ++ l914.map cS35 = g883.map cS35 ++ l884.map cS35 := ⟨g883 ++ l884.take n913,by rw [List.length_append,List.length_take,Nat.min_eq_left hn913],by rw [← gl914,List.map_append,List.append_assoc,← List.map_append,List.take_append_drop]⟩
        have hl914l : l914.length = l884.length - n913 := by rw [← gl914,List.length_drop]
        clear gl914
        refine .regionT 8 (by kernel_rfl) (by kernel_rfl) fun K k => ?_;simp [hn913,hn913a];refine k _ _ ?_;clear k K
        refine .sub (S' := mk 272 [] (L79 a1 a2 r734 r869.2 a0 a0.length v298 ++ [(190,.ref 5880 g915.length l914.length),(192,.ptr 44 0 0)]) [(9,some (.box [.ptr 44 0 0])),(40,some (.box [.ref 5800 0 r869.1.records.length,.ref 5801 0 r869.1.refs.length,.ref 5802 0 r869.1.backups.length,.ref 5803 0 r869.1.changes.length,.i r869.1.earliest])),(44,some (.box [.ref 5880 g883.length l884.length,.ref 5881 0 l296.length,.i v297])),(5800,R76 r869.1.records),(5801,R3 r869.1.refs),(5802,R64 r869.1.backups),(5803,R73 r869.1.changes),(5880,R35 (g915 ++ l914)),(5881,R46 l296)]) (Sub.table (by simp [hg915a,hl914l]) (by simp [hg915b])) ?_
        refine .rr 1 ?_
        refine .tt (L79 a1 a2 r734 r869.2 a0 a0.length v298) [(9,some (.box [.ptr 44 0 0])),(40,some (.box [.ref 5800 0 r869.1.records.length,.ref 5801 0 r869.1.refs.length,.ref 5802 0 r869.1.backups.length,.ref 5803 0 r869.1.changes.length,.i r869.1.earliest])),(44,some (.box [.ref 5880 g915.length l914.length,.ref 5881 0 l296.length,.i v297])),(5800,R76 r869.1.records),(5801,R3 r869.1.refs),(5802,R64 r869.1.backups),(5803,R73 r869.1.changes),(5880,R35 (g915 ++ l914)),(5881,R46 l296)] (.nil ?_)
        cases h
        refine blockQ.normal ?_
        refine PostIG.next g915 ?_
        exact Sub.tt
       have c912_ : v909 = false := Bool.eq_false_iff.2 c912
       refine .condF rfl c912_ ?_
       refine .exit ?_
       cases h
       refine thenQ_ps ?_
       refine PostIG.out (by simp) ?_
       rintro rfl
       refine blockQ.hit ?_
       refine PostNG.next g883 ?_
       exact Sub.tt
      intro g905
      rintro l906 h
      replace h := bsome h;obtain ⟨x916,hx916,h⟩ := h
      obtain ⟨hx916,hx916b,hx916c⟩ := idx_someN (n := 0) hx916
      have hx916d : (0 : Int) < (l906.length : Int) := by omega
      refine .seqT 10 (by kernel_rfl) (by kernel_rfl) fun K k => ?_;simp [hx916b,hx916c];refine k _ _ ?_;clear k K
      refine .tt (L72 a1 a2 r869.2 a0 a0.length v298 ++ [(200,.i x916.Time),(202,.ptr 44 0 2)]) [(9,some (.box [.ptr 44 0 0])),(40,some (.box [.ref 5800 0 r869.1.records.length,.ref 5801 0 r869.1.refs.length,.ref 5802 0 r869.1.backups.length,.ref 5803 0 r869.1.changes.length,.i r869.1.earliest])),(44,some (.box [.ref 5880 g905.length l906.length,.ref 5881 0 l296.length,.i v297])),(5800,R76 r869.1.records),(5801,R3 r869.1.refs),(5802,R64 r869.1.backups),(5803,R73 r869.1.changes),(5880,R35 (g905 ++ l906)),(5881,R46 l296)] ?_
      refine .rr 1 ?_
      refine .tt (L72 a1 a2 r869.2 a0 a0.length v298) [(9,some (.box [.ptr 44 0 0])),(40,some (.box [.ref 5800 0 r869.1.records.length,.ref 5801 0 r869.1.refs.length,.ref 5802 0 r869.1.backups.length,.ref 5803 0 r869.1.changes.length,.i r869.1.earliest])),(44,some (.box [.ref 5880 g905.length l906.length,.ref 5881 0 l296.length,.i x916.Time])),(5800,R76 r869.1.records),(5801,R3 r869.1.refs),(5802,R64 r869.1.backups),(5803,R73 r869.1.changes),(5880,R35 (g905 ++ l906)),(5881,R46 l296)] (.nil ?_)
      replace h := bsome h;obtain ⟨r917,hr917,h⟩ := h
      replace h := bsome h;obtain ⟨r918,hr918,h⟩ := h
      refine .lastAnyS [[],[],[1],[1,2],[1,2,3],[1,2,3,4],[],[1,2,3,4,5,6],[0,1,2,3,4,5,6,7],[0,1,2,3,4,5,6,7,8],[0,1,2,3,4,5,6,7,8,9]] (fun (b : Nat → Bool) => mk 272 [] [(1,.ss a1),(2,.ls71 a2),(8,.ptr 40 0 0),(9,.ptr 9 0 0),(15,.i r869.2),(16,.i 0),(45,.lsi a0),(46,.i (a0.length : Int)),(47,.i v298),(203,(if b 0 then .ptr 44 0 0 else .junk)),(204,(if b 1 then .ptr 44 0 0 else .junk)),(205,(if b 2 then .ptr 44 0 0 else .junk)),(206,(if b 3 then .ptr 44 0 1 else .junk)),(207,(if b 7 then .junk else (if b 4 then .ref 5881 0 l296.length else .junk))),(208,(if b 5 then .ref 208 0 r917.length else .junk)),(209,(if b 6 then .fn (.func 17) [.ptr 9 0 0] else .junk)),(210,(if b 7 then .ref 208 0 r918.length else .junk)),(211,(if b 8 then .ptr 44 0 0 else .junk)),(212,(if b 9 then .ptr 44 0 1 else .junk))] [(9,some (.box [.ptr 44 0 0])),(40,some (.box [.ref 5800 0 r869.1.records.length,.ref 5801 0 r869.1.refs.length,.ref 5802 0 r869.1.backups.length,.ref 5803 0 r869.1.changes.length,.i r869.1.earliest])),(44,(if b 10 then some (.box [.ref 5880 g905.length l906.length,.ref 208 0 r918.length,.i x916.Time]) else some (.box [.ref 5880 g905.length l906.length,.ref 5881 0 l296.length,.i x916.Time]))),(208,(if b 7 then R46 r918 else (if b 5 then R46 r917 else none))),(5800,R76 r869.1.records),(5801,R3 r869.1.refs),(5802,R64 r869.1.backups),(5803,R73 r869.1.changes),(5880,R35 (g905 ++ l906)),(5881,R46 l296)]) (mk 272 [] (L72 a1 a2 r869.2 a0 a0.length v298) [(9,some (.box [.ptr 44 0 0])),(40,some (.box [.ref 5800 0 r869.1.records.length,.ref 5801 0 r869.1.refs.length,.ref 5802 0 r869.1.backups.length,.ref 5803 0 r869.1.changes.length,.i r869.1.earliest])),(44,some (.box [.ref 5880 g905.length l906.length,.ref 5881 0 r918.length,.i x916.Time])),(5800,R76 r869.1.records),(5801,R3 r869.1.refs),(5802,R64 r869.1.backups),(5803,R73 r869.1.changes),(5880,R35 (g905 ++ l906)),(5881,R46 r918)]) (by kernel_rfl) (by kernel_rfl) Sub.tt (Steps.cons ?_ (Steps.cons ?_ (Steps.cons ?_ (Steps.cons ?_ (Steps.cons ?_ (Steps.cons ?_ (Steps.cons ?_ (Steps.cons ?_ (Steps.cons ?_ (Steps.cons ?_ (Steps.cons ?_ (Steps.nil)))))))))))) ?_ ?_
      iterate 5
       ·intro b h0 ha hd
        have T := fct h0 ha hd;simp at T
        refine .rk 1 fun K k => ?_;simp [T];refine k ?_
        exact .nil .tT
      ·intro b h0 ha hd
       have T := fct h0 ha hd;simp at T
       simp only [T,if_true,if_false,Bool.false_eq_true]
       refine .callF (pl16 N l296 r917 hr917) [(5881,1000)] [5881] [(1000,5881),(5,208)] [(208,.arr 46 3 (r917.map cS46)),(5881,.arr 46 3 (l296.map cS46))] (.ref 208 0 r917.length) (by simp) rfl (by simp <;> rfl) (by simp) (by simp) (by simp) (by simp) (by simp) ent16 (by simp) (by simp) (by simp) (by simp) (by simp) (by simp) ?_
       exact .nil (by simp [T];exact Sub.tT)
      ·intro b h0 ha hd
       have T := fct h0 ha hd;simp at T
       refine .rk 1 fun K k => ?_;simp [T];refine k ?_
       exact .nil .tT
      ·intro b h0 ha hd
       have T := fct h0 ha hd;simp at T
       simp only [T,if_true,if_false,Bool.false_eq_true]
       refine .callF (p15 N r917 (g905 ++ l906) l296 x916.Time g905.length l906.length 0 l296.length r918 hr918) [(208,1000),(9,2000),(44,3000),(5880,65000),(5881,65001)] [208,9,44] [(1000,208),(2000,9),(3000,44),(65000,5880),(65001,5881)] [(208,(.arr 46 3 (r918.map cS46))),(9,(.box [.ptr 44 0 0])),(44,(.box [.ref 5880 g905.length l906.length,.ref 5881 0 l296.length,.d (.lit (.int .i64 x916.Time))])),(5880,(.arr 35 2 ((g905 ++ l906).map cS35))),(5881,(.arr 46 3 (l296.map cS46)))] (.ref 208 0 r918.length) (by simp) rfl (by simp <;> rfl) (by simp) (by simp) (by simp) (by simp) (by simp) ent15 (by simp) (by simp) (by simp) (by simp) (by simp) (by simp) ?_
       exact .nil (by simp [T];exact Sub.tT)
      iterate 3
       ·intro b h0 ha hd
        have T := fct h0 ha hd;simp at T
        refine .rk 1 fun K k => ?_;simp [T];refine k ?_
        exact .nil .tT
      ·intro b hb
       have t0 := hb 0 (by decide)
       have t1 := hb 1 (by decide)
       have t2 := hb 2 (by decide)
       have t3 := hb 3 (by decide)
       have t4 := hb 4 (by decide)
       have t5 := hb 5 (by decide)
       have t6 := hb 6 (by decide)
       have t7 := hb 7 (by decide)
       have t8 := hb 8 (by decide)
       have t9 := hb 9 (by decide)
       have t10 := hb 10 (by decide)
       refine Sub.trans (S' := mk 272 [] (L72 a1 a2 r869.2 a0 a0.length v298) [(9,some (.box [.ptr 44 0 0])),(40,some (.box [.ref 5800 0 r869.1.records.length,.ref 5801 0 r869.1.refs.length,.ref 5802 0 r869.1.backups.length,.ref 5803 0 r869.1.changes.length,.i r869.1.earliest])),(44,some (.box [.ref 5880 g905.length l906.length,.ref 208 0 r918.length,.i x916.Time])),(208,R46 r918),(5800,R76 r869.1.records),(5801,R3 r869.1.refs),(5802,R64 r869.1.backups),(5803,R73 r869.1.changes),(5880,R35 (g905 ++ l906))]) (Sub.table (by simp [t0,t1,t2,t3,t5,t6,t7,t8,t9]) (by simp [t7,t10])) ?_
       exact (Sub.names [(9,9),(40,40),(44,44),(208,5881),(5800,5800),(5801,5801),(5802,5802),(5803,5803),(5880,5880)] (by simp) (by simp) (by simp [back]) (by simp [V.rnm,lk2]) (by simp [back,Blk.rnm,V.rnm,rnmL,lk2]))
      skip
      cases h
      refine PostJG.next g905 ?_
      exact Sub.tt
     have c873_ : v871 = false := Bool.eq_false_iff.2 c873
     refine .condF rfl c873_ ?_
     refine .skip ?_
     cases h
     refine PostJG.next g294 ?_
     exact Sub.tt
    have c868_ : (r739 == 3) = false := Bool.eq_false_iff.2 c868
    refine .condF rfl c868_ ?_
    refine .seqR ?_
    refine .rr 2 ?_
    refine .tt (L73 a1 a2 r734 a0 a0.length v298 ++ [(213,.b (r739 == 4))]) [(9,some (.box [.ptr 44 0 0])),(40,some (.box [.ref 5800 0 l289.length,.ref 5801 0 l290.length,.ref 5802 0 l291.length,.ref 5803 0 l292.length,.i v293])),(44,some (.box [.ref 5880 g294.length l295.length,.ref 5881 0 l296.length,.i v297])),(5800,R76 l289),(5801,R3 l290),(5802,R64 l291),(5803,R73 l292),(5880,R35 (g294 ++ l295)),(5881,R46 l296)] (.nil ?_)
    replace h := isome h;rcases h with ⟨c919,h⟩ | ⟨c919,h⟩
    ·have c919_ : (r739 == 4) = true := c919
     refine .condT rfl c919_ ?_
     refine .seqR ?_
     refine .rr 2 ?_
     refine .tt (L80 a1 a2 r734 ++ [(45,.lsi a0),(46,.i (a0.length : Int)),(47,.i v298),(216,.ptr 40 0 0),(217,.i r734)]) [(9,some (.box [.ptr 44 0 0])),(40,some (.box [.ref 5800 0 l289.length,.ref 5801 0 l290.length,.ref 5802 0 l291.length,.ref 5803 0 l292.length,.i v293])),(44,some (.box [.ref 5880 g294.length l295.length,.ref 5881 0 l296.length,.i v297])),(5800,R76 l289),(5801,R3 l290),(5802,R64 l291),(5803,R73 l292),(5880,R35 (g294 ++ l295)),(5881,R46 l296)] ?_
     replace h := bsome h;obtain ⟨r920,hr920,h⟩ := h
     refine .callF (p18 N (S68.mk l289 l290 l291 l292 v293) r734 r920 hr920) [(40,1000),(5800,25000),(5801,25001),(5802,25002),(5803,25003)] [40] [(1000,40),(25000,5800),(25001,5801),(25002,5802),(25003,5803)] [(40,(.box [.ref 5800 0 r920.1.records.length,.ref 5801 0 r920.1.refs.length,.ref 5802 0 r920.1.backups.length,.ref 5803 0 r920.1.changes.length,.i r920.1.earliest])),(5800,(.arr 76 2 (r920.1.records.map cS76))),(5801,(.arr 3 1 (r920.1.refs.map (cI .i64)))),(5802,(.arr 64 2 (r920.1.backups.map cS64))),(5803,(.arr 73 3 (r920.1.changes.map cS73)))] (.tup [.s76 r920.2.1,.i r920.2.2]) (by simp) rfl (by simp <;> rfl) (by simp) (by simp) (by simp) (by simp) (by simp) ent18 (by simp) (by simp) (by simp) (by simp) (by simp) (by simp) ?_
     refine .st (mk 272 [] (L80 a1 a2 r734 ++ [(45,.lsi a0),(46,.i (a0.length : Int)),(47,.i v298),(216,.ptr 40 0 0),(217,.i r734),(218,.tup [.s76 r920.2.1,.i r920.2.2])]) [(9,some (.box [.ptr 44 0 0])),(40,some (.box [.ref 5800 0 r920.1.records.length,.ref 5801 0 r920.1.refs.length,.ref 5802 0 r920.1.backups.length,.ref 5803 0 r920.1.changes.length,.i r920.1.earliest])),(44,some (.box [.ref 5880 g294.length l295.length,.ref 5881 0 l296.length,.i v297])),(5800,R76 r920.1.records),(5801,R3 r920.1.refs),(5802,R64 r920.1.backups),(5803,R73 r920.1.changes),(5880,R35 (g294 ++ l295)),(5881,R46 l296)]) ?_
     refine .rr 5 ?_
     refine .tt (L80 a1 a2 r734 ++ [(20,.s76 r920.2.1),(21,.i r920.2.2),(45,.lsi a0),(46,.i (a0.length : Int)),(47,.i v298)]) [(9,some (.box [.ptr 44 0 0])),(40,some (.box [.ref 5800 0 r920.1.records.length,.ref 5801 0 r920.1.refs.length,.ref 5802 0 r920.1.backups.length,.ref 5803 0 r920.1.changes.length,.i r920.1.earliest])),(44,some (.box [.ref 5880 g294.length l295.length,.ref 5881 0 l296.length,.i v297])),(5800,R76 r920.1.records),(5801,R3 r920.1.refs),(5802,R64 r920.1.backups),(5803,R73 r920.1.changes),(5880,R35 (g294 ++ l295)),(5881,R46 l296)] (.nil (.seqR ?_))
     refine .rr 2 ?_
     refine .tt [(1,.ss a1),(2,.ls71 a2),(8,.ptr 40 0 0),(9,.ptr 9 0 0),(12,.i r734),(15,.i r920.2.2),(16,.i 0),(20,.s76 r920.2.1),(45,.lsi a0),(46,.i (a0.length : Int)),(47,.i v298)] [(9,some (.box [.ptr 44 0 0])),(40,some (.box [.ref 5800 0 r920.1.records.length,.ref 5801 0 r920.1.refs.length,.ref 5802 0 r920.1.backups.length,.ref 5803 0 r920.1.changes.length,.i r920.1.earliest])),(44,some (.box [.ref 5880 g294.length l295.length,.ref 5881 0 l296.length,.i v297])),(5800,R76 r920.1.records),(5801,R3 r920.1.refs),(5802,R64 r920.1.backups),(5803,R73 r920.1.changes),(5880,R35 (g294 ++ l295)),(5881,R46 l296)] (.nil (.seqR ?_))
     refine .rr 6 ?_
     refine .tt [(1,.ss a1),(2,.ls71 a2),(8,.ptr 40 0 0),(9,.ptr 9 0 0),(12,.i r734),(15,.i r920.2.2),(16,.i 0),(20,.s76 r920.2.1),(45,.lsi a0),(46,.i (a0.length : Int)),(47,.i v298),(227,.b (decide (r734 < v297)))] [(9,some (.box [.ptr 44 0 0])),(40,some (.box [.ref 5800 0 r920.1.records.length,.ref 5801 0 r920.1.refs.length,.ref 5802 0 r920.1.backups.length,.ref 5803 0 r920.1.changes.length,.i r920.1.earliest])),(44,some (.box [.ref 5880 g294.length l295.length,.ref 5881 0 l296.length,.i v297])),(5800,R76 r920.1.records),(5801,R3 r920.1.refs),(5802,R64 r920.1.backups),(5803,R73 r920.1.changes),(5880,R35 (g294 ++ l295)),(5881,R46 l296)] (.nil ?_)
     replace h := isome h;rcases h with ⟨c921,h⟩ | ⟨c921,h⟩
     ·have c921_ : decide (r734 < v297) = true := decide_eq_true c921
      refine .condT rfl c921_ ?_
      refine .seqR ?_
      refine .rr 1 ?_
      refine .tt [(1,.ss a1),(2,.ls71 a2),(8,.ptr 40 0 0),(9,.ptr 9 0 0),(15,.i r920.2.2),(16,.i 21),(20,.s76 r920.2.1),(45,.lsi a0),(46,.i (a0.length : Int)),(47,.i v298)] [(9,some (.box [.ptr 44 0 0])),(40,some (.box [.ref 5800 0 r920.1.records.length,.ref 5801 0 r920.1.refs.length,.ref 5802 0 r920.1.backups.length,.ref 5803 0 r920.1.changes.length,.i r920.1.earliest])),(44,some (.box [.ref 5880 g294.length l295.length,.ref 5881 0 l296.length,.i v297])),(5800,R76 r920.1.records),(5801,R3 r920.1.refs),(5802,R64 r920.1.backups),(5803,R73 r920.1.changes),(5880,R35 (g294 ++ l295)),(5881,R46 l296)] (.nil (.seqR ?_))
      refine .rr 3 ?_
      refine .tt [(1,.ss a1),(2,.ls71 a2),(8,.ptr 40 0 0),(9,.ptr 9 0 0),(15,.i r920.2.2),(16,.i 21),(45,.lsi a0),(46,.i (a0.length : Int)),(47,.i v298),(230,.b ((r920.2.1.length : Int) != 0))] [(9,some (.box [.ptr 44 0 0])),(40,some (.box [.ref 5800 0 r920.1.records.length,.ref 5801 0 r920.1.refs.length,.ref 5802 0 r920.1.backups.length,.ref 5803 0 r920.1.changes.length,.i r920.1.earliest])),(44,some (.box [.ref 5880 g294.length l295.length,.ref 5881 0 l296.length,.i v297])),(5800,R76 r920.1.records),(5801,R3 r920.1.refs),(5802,R64 r920.1.backups),(5803,R73 r920.1.changes),(5880,R35 (g294 ++ l295)),(5881,R46 l296)] (.nil ?_)
      replace h := isome h;rcases h with ⟨c922,h⟩ | ⟨c922,h⟩
      ·have c922_ : ((r920.2.1.length : Int) != 0) = true := c922
       refine .condT rfl c922_ ?_
       refine .seqR ?_
       refine .rr 1 ?_
       refine .tt [(6,.b false)] [] (.nil (.ret ?_))
       cases h
       refine PostJG.out (by simp) ?_
       rintro rfl
       refine blockQ.ret ?_
       refine thenQ_ps ?_
       refine blockQ.ret ?_
       refine thenQ_ps ?_
       refine PostIG.out (by simp) ?_
       rintro rfl
       refine blockQ.ret ?_
       refine PostJ.out (by simp) ?_
       rintro rfl
       refine thenQ_ps ?_
       exact FinC.rs
      have c922_ : ((r920.2.1.length : Int) != 0) = false := Bool.eq_false_iff.2 c922
      refine .condF rfl c922_ ?_
      refine .skip ?_
      cases h
      refine PostJG.next g294 ?_
      exact Sub.tt
     have c921_ : decide (r734 < v297) = false := decide_eq_false c921
     refine .condF rfl c921_ ?_
     refine .seqR ?_
     refine .rr 3 ?_
     refine .tt (L81 a1 a2 r920.2.2 a0 a0.length v298 r920.2.1 r734) [(9,some (.box [.ptr 44 0 0])),(40,some (.box [.ref 5800 0 r920.1.records.length,.ref 5801 0 r920.1.refs.length,.ref 5802 0 r920.1.backups.length,.ref 5803 0 r920.1.changes.length,.i r920.1.earliest])),(44,some (.box [.ref 5880 g294.length l295.length,.ref 5881 0 l296.length,.i v297])),(5800,R76 r920.1.records),(5801,R3 r920.1.refs),(5802,R64 r920.1.backups),(5803,R73 r920.1.changes),(5880,R35 (g294 ++ l295)),(5881,R46 l296)] ?_
     replace h := bsome h;obtain ⟨r923,hr923,h⟩ := h
     refine .callF (p12 N (S39.mk l295 l296 v297) r734 g294 r923 hr923) [(44,1000),(5880,25000),(5881,25001)] [44] [(1000,44),(25000,5880),(25001,5881)] [(44,(.box [.ref 5880 g294.length r923.1.Backups.length,.ref 5881 0 r923.1.Changes.length,.i r923.1.Earliest])),(5880,(.arr 35 2 ((g294 ++ r923.1.Backups).map cS35))),(5881,(.arr 46 3 (r923.1.Changes.map cS46)))] (.d (.mpi .string false (r923.2.map (MKey.sk ∘ Prod.fst)) (r923.2.map ((cL cS71) ∘ Prod.snd)))) (by simp) rfl (by simp <;> rfl) (by simp) (by simp) (by simp) (by simp) (by simp) ent12 (by simp) (by simp) (by simp) (by simp) (by simp) (by simp) ?_
     refine .st (mk 272 [] (L81 a1 a2 r920.2.2 a0 a0.length v298 r920.2.1 r734 ++ [(234,.d (.mpi .string false (r923.2.map (MKey.sk ∘ Prod.fst)) (r923.2.map ((cL cS71) ∘ Prod.snd))))]) [(9,some (.box [.ptr 44 0 0])),(40,some (.box [.ref 5800 0 r920.1.records.length,.ref 5801 0 r920.1.refs.length,.ref 5802 0 r920.1.backups.length,.ref 5803 0 r920.1.changes.length,.i r920.1.earliest])),(44,some (.box [.ref 5880 g294.length r923.1.Backups.length,.ref 5881 0 r923.1.Changes.length,.i r923.1.Earliest])),(5800,R76 r920.1.records),(5801,R3 r920.1.refs),(5802,R64 r920.1.backups),(5803,R73 r920.1.changes),(5880,R35 (g294 ++ r923.1.Backups)),(5881,R46 r923.1.Changes)]) ?_
     replace h := bsome h;obtain ⟨r924,hr924,h⟩ := h
     refine .callC (d := 235) (p20 N r923.2 r924 hr924) (by simp) rfl rfl (by simp <;> rfl) (by simp <;> rfl) ent20 (by simp) (.inl ⟨by simp,by simp⟩) ?_
     refine .st (mk 272 [] (L81 a1 a2 r920.2.2 a0 a0.length v298 r920.2.1 r734 ++ [(234,.d (.mpi .string false (r923.2.map (MKey.sk ∘ Prod.fst)) (r923.2.map ((cL cS71) ∘ Prod.snd)))),(235,.s76 r924)]) [(9,some (.box [.ptr 44 0 0])),(40,some (.box [.ref 5800 0 r920.1.records.length,.ref 5801 0 r920.1.refs.length,.ref 5802 0 r920.1.backups.length,.ref 5803 0 r920.1.changes.length,.i r920.1.earliest])),(44,some (.box [.ref 5880 g294.length r923.1.Backups.length,.ref 5881 0 r923.1.Changes.length,.i r923.1.Earliest])),(5800,R76 r920.1.records),(5801,R3 r920.1.refs),(5802,R64 r920.1.backups),(5803,R73 r920.1.changes),(5880,R35 (g294 ++ r923.1.Backups)),(5881,R46 r923.1.Changes)]) ?_
     replace h := bsome h;obtain ⟨r925,hr925,h⟩ := h
     refine .callL (d := 236) (p19 N r920.2.1 r924 r925 hr925) (by simp) rfl rfl (by simp <;> rfl) (by simp <;> rfl) ent19 (by simp <;> rfl) ?_
     refine .st (mk 272 [] (L81 a1 a2 r920.2.2 a0 a0.length v298 r920.2.1 r734 ++ [(234,.d (.mpi .string false (r923.2.map (MKey.sk ∘ Prod.fst)) (r923.2.map ((cL cS71) ∘ Prod.snd)))),(235,.s76 r924),(236,.b r925)]) [(9,some (.box [.ptr 44 0 0])),(40,some (.box [.ref 5800 0 r920.1.records.length,.ref 5801 0 r920.1.refs.length,.ref 5802 0 r920.1.backups.length,.ref 5803 0 r920.1.changes.length,.i r920.1.earliest])),(44,some (.box [.ref 5880 g294.length r923.1.Backups.length,.ref 5881 0 r923.1.Changes.length,.i r923.1.Earliest])),(5800,R76 r920.1.records),(5801,R3 r920.1.refs),(5802,R64 r920.1.backups),(5803,R73 r920.1.changes),(5880,R35 (g294 ++ r923.1.Backups)),(5881,R46 r923.1.Changes)]) ?_
     refine .rr 1 ?_
     refine .tt (L72 a1 a2 r920.2.2 a0 a0.length v298 ++ [(237,.b (!r925))]) [(9,some (.box [.ptr 44 0 0])),(40,some (.box [.ref 5800 0 r920.1.records.length,.ref 5801 0 r920.1.refs.length,.ref 5802 0 r920.1.backups.length,.ref 5803 0 r920.1.changes.length,.i r920.1.earliest])),(44,some (.box [.ref 5880 g294.length r923.1.Backups.length,.ref 5881 0 r923.1.Changes.length,.i r923.1.Earliest])),(5800,R76 r920.1.records),(5801,R3 r920.1.refs),(5802,R64 r920.1.backups),(5803,R73 r920.1.changes),(5880,R35 (g294 ++ r923.1.Backups)),(5881,R46 r923.1.Changes)] (.nil ?_)
     replace h := isome h;rcases h with ⟨c926,h⟩ | ⟨c926,h⟩
     ·have c926_ : (!r925) = true := c926
      refine .condT rfl c926_ ?_
      refine .seqR ?_
      refine .rr 1 ?_
      refine .tt [(6,.b false)] [] (.nil (.ret ?_))
      cases h
      refine PostJG.out (by simp) ?_
      rintro rfl
      refine blockQ.ret ?_
      refine thenQ_ps ?_
      refine blockQ.ret ?_
      refine thenQ_ps ?_
      refine PostIG.out (by simp) ?_
      rintro rfl
      refine blockQ.ret ?_
      refine PostJ.out (by simp) ?_
      rintro rfl
      refine thenQ_ps ?_
      exact FinC.rs
     have c926_ : (!r925) = false := Bool.eq_false_iff.2 c926
     refine .condF rfl c926_ ?_
     refine .skip ?_
     cases h
     refine PostJG.next g294 ?_
     exact Sub.tt
    have c919_ : (r739 == 4) = false := Bool.eq_false_iff.2 c919
    refine .condF rfl c919_ ?_
    refine .skip ?_
    cases h
    refine PostJG.next g294 ?_
    exact Sub.tt
   intro g833
   rintro ⟨l828,l829,l830,l831,v832,l834,l835,v836,v837,v838⟩ h
   dsimp only at h ⊢
   refine blockQ.normal (thenQ_normal (.seqR ?_))
   refine .rr 1 ?_
   refine .tt (L65 a1 a2 v837 v838 a0 a0.length v298 ++ [(239,.ptr 40 0 0)]) [(9,some (.box [.ptr 44 0 0])),(40,some (.box [.ref 5800 0 l828.length,.ref 5801 0 l829.length,.ref 5802 0 l830.length,.ref 5803 0 l831.length,.i v832])),(44,some (.box [.ref 5880 g833.length l834.length,.ref 5881 0 l835.length,.i v836])),(5800,R76 l828),(5801,R3 l829),(5802,R64 l830),(5803,R73 l831),(5880,R35 (g833 ++ l834)),(5881,R46 l835)] ?_
   replace h := bsome h;obtain ⟨r927,hr927,h⟩ := h
   refine .callL (d := 240) (p21 N (S68.mk l828 l829 l830 l831 v832) r927 hr927) (by simp) rfl rfl (by simp <;> rfl) (by simp <;> rfl) ent21 (by simp <;> rfl) ?_
   refine .st (mk 272 [] (L65 a1 a2 v837 v838 a0 a0.length v298 ++ [(239,.ptr 40 0 0),(240,.tup [.i r927.1,.i r927.2.1,.i r927.2.2])]) [(9,some (.box [.ptr 44 0 0])),(40,some (.box [.ref 5800 0 l828.length,.ref 5801 0 l829.length,.ref 5802 0 l830.length,.ref 5803 0 l831.length,.i v832])),(44,some (.box [.ref 5880 g833.length l834.length,.ref 5881 0 l835.length,.i v836])),(5800,R76 l828),(5801,R3 l829),(5802,R64 l830),(5803,R73 l831),(5880,R35 (g833 ++ l834)),(5881,R46 l835)]) ?_
   refine .rr 7 ?_
   refine .tt [(1,.ss a1),(2,.ls71 a2),(8,.ptr 40 0 0),(9,.ptr 9 0 0),(15,.i v837),(16,.i v838),(22,.i r927.1),(23,.i r927.2.1),(24,.i r927.2.2),(45,.lsi a0),(46,.i (a0.length : Int)),(47,.i v298)] [(9,some (.box [.ptr 44 0 0])),(40,some (.box [.ref 5800 0 l828.length,.ref 5801 0 l829.length,.ref 5802 0 l830.length,.ref 5803 0 l831.length,.i v832])),(44,some (.box [.ref 5880 g833.length l834.length,.ref 5881 0 l835.length,.i v836])),(5800,R76 l828),(5801,R3 l829),(5802,R64 l830),(5803,R73 l831),(5880,R35 (g833 ++ l834)),(5881,R46 l835)] (.nil ?_)
   replace h := bsome h;obtain ⟨⟨l932,l933,v934,v935⟩,hj,h⟩ := h
   dsimp only at h
   refine .cutR (mk 272 [] (L60 a1 a2 a0 a0.length v298 ++ [(270,.b v935)]) [(9,some (.box [.ptr 44 0 0])),(40,some (.box [.ref 5800 0 l828.length,.ref 5801 0 l829.length,.ref 5802 0 l830.length,.ref 5803 0 l831.length,.i v832])),(44,some (.box [.ref 5880 g833.length l932.length,.ref 5881 0 l933.length,.i v934])),(5800,R76 l828),(5801,R3 l829),(5802,R64 l830),(5803,R73 l831),(5880,R35 (g833 ++ l932)),(5881,R46 l933)]) ?_ ?_
   ·clear h;have h := hj;clear hj
    refine .rr 4 ?_
    refine .tt (L82 a1 a2 r927.1 r927.2.1 r927.2.2 a0 a0.length v298 ++ [(247,.b (v837 != v838))]) [(9,some (.box [.ptr 44 0 0])),(40,some (.box [.ref 5800 0 l828.length,.ref 5801 0 l829.length,.ref 5802 0 l830.length,.ref 5803 0 l831.length,.i v832])),(44,some (.box [.ref 5880 g833.length l834.length,.ref 5881 0 l835.length,.i v836])),(5800,R76 l828),(5801,R3 l829),(5802,R64 l830),(5803,R73 l831),(5880,R35 (g833 ++ l834)),(5881,R46 l835)] ?_
    replace h := isome h;rcases h with ⟨c936,h⟩ | ⟨c936,h⟩
    ·have c936_ : (v837 != v838) = true := c936
     refine .sub (.bool 247 rfl c936_) ?_
     refine .st (mk 272 [] (L82 a1 a2 r927.1 r927.2.1 r927.2.2 a0 a0.length v298 ++ [(247,.b true)]) [(9,some (.box [.ptr 44 0 0])),(40,some (.box [.ref 5800 0 l828.length,.ref 5801 0 l829.length,.ref 5802 0 l830.length,.ref 5803 0 l831.length,.i v832])),(44,some (.box [.ref 5880 g833.length l834.length,.ref 5881 0 l835.length,.i v836])),(5800,R76 l828),(5801,R3 l829),(5802,R64 l830),(5803,R73 l831),(5880,R35 (g833 ++ l834)),(5881,R46 l835)]) ?_
     refine .rr 23 ?_
     refine .tt (L60 a1 a2 a0 a0.length v298 ++ [(248,.tup []),(249,.tup []),(250,.tup []),(251,.tup []),(252,.tup []),(253,.tup []),(254,.tup []),(257,.tup []),(258,.tup []),(259,.tup []),(260,.tup []),(263,.tup []),(264,.tup []),(265,.tup []),(266,.tup []),(267,.tup []),(268,.tup []),(269,.tup []),(270,.b true)]) [(9,some (.box [.ptr 44 0 0])),(40,some (.box [.ref 5800 0 l828.length,.ref 5801 0 l829.length,.ref 5802 0 l830.length,.ref 5803 0 l831.length,.i v832])),(44,some (.box [.ref 5880 g833.length l834.length,.ref 5881 0 l835.length,.i v836])),(5800,R76 l828),(5801,R3 l829),(5802,R64 l830),(5803,R73 l831),(5880,R35 (g833 ++ l834)),(5881,R46 l835)] ?_
     cases h
     exact .nil .tt
    have c936_ : (v837 != v838) = false := Bool.eq_false_iff.2 c936
    refine .sub (.bool 247 rfl c936_) ?_
    refine .st (mk 272 [] (L82 a1 a2 r927.1 r927.2.1 r927.2.2 a0 a0.length v298 ++ [(247,.b false)]) [(9,some (.box [.ptr 44 0 0])),(40,some (.box [.ref 5800 0 l828.length,.ref 5801 0 l829.length,.ref 5802 0 l830.length,.ref 5803 0 l831.length,.i v832])),(44,some (.box [.ref 5880 g833.length l834.length,.ref 5881 0 l835.length,.i v836])),(5800,R76 l828),(5801,R3 l829),(5802,R64 l830),(5803,R73 l831),(5880,R35 (g833 ++ l834)),(5881,R46 l835)]) ?_
    refine .rr 9 ?_
    refine .tt (L83 a1 a2 r927.2.1 r927.2.2 a0 a0.length v298 r927.1 g833.length l834.length ++ [(254,.b (r927.1 != (l834.length : Int))),(256,.b (r927.1 != (l834.length : Int)))]) [(9,some (.box [.ptr 44 0 0])),(40,some (.box [.ref 5800 0 l828.length,.ref 5801 0 l829.length,.ref 5802 0 l830.length,.ref 5803 0 l831.length,.i v832])),(44,some (.box [.ref 5880 g833.length l834.length,.ref 5881 0 l835.length,.i v836])),(5800,R76 l828),(5801,R3 l829),(5802,R64 l830),(5803,R73 l831),(5880,R35 (g833 ++ l834)),(5881,R46 l835)] ?_
    replace h := isome h;rcases h with ⟨c937,h⟩ | ⟨c937,h⟩
    ·have c937_ : (r927.1 != (l834.length : Int)) = true := c937
     refine .sub (.bool 254 rfl c937_) ?_
     refine .sub (.bool 256 rfl c937_) ?_
     refine .st (mk 272 [] (L83 a1 a2 r927.2.1 r927.2.2 a0 a0.length v298 r927.1 g833.length l834.length ++ [(254,.b true),(256,.b true)]) [(9,some (.box [.ptr 44 0 0])),(40,some (.box [.ref 5800 0 l828.length,.ref 5801 0 l829.length,.ref 5802 0 l830.length,.ref 5803 0 l831.length,.i v832])),(44,some (.box [.ref 5880 g833.length l834.length,.ref 5881 0 l835.length,.i v836])),(5800,R76 l828),(5801,R3 l829),(5802,R64 l830),(5803,R73 l831),(5880,R35 (g833 ++ l834)),(5881,R46 l835)]) ?_
     refine .rr 14 ?_
     refine .tt (L84 a1 a2 a0 a0.length v298 r927.1 ++ [(252,.ref 5880 g833.length l834.length),(253,.i (l834.length : Int)),(254,.b true),(257,.tup []),(258,.tup []),(259,.tup []),(260,.tup []),(263,.tup []),(264,.tup []),(265,.tup []),(266,.tup []),(267,.tup []),(268,.tup []),(269,.tup []),(270,.b true)]) [(9,some (.box [.ptr 44 0 0])),(40,some (.box [.ref 5800 0 l828.length,.ref 5801 0 l829.length,.ref 5802 0 l830.length,.ref 5803 0 l831.length,.i v832])),(44,some (.box [.ref 5880 g833.length l834.length,.ref 5881 0 l835.length,.i v836])),(5800,R76 l828),(5801,R3 l829),(5802,R64 l830),(5803,R73 l831),(5880,R35 (g833 ++ l834)),(5881,R46 l835)] ?_
     cases h
     exact .nil .tt
    have c937_ : (r927.1 != (l834.length : Int)) = false := Bool.eq_false_iff.2 c937
    refine .sub (.bool 254 rfl c937_) ?_
    refine .sub (.bool 256 rfl c937_) ?_
    refine .st (mk 272 [] (L83 a1 a2 r927.2.1 r927.2.2 a0 a0.length v298 r927.1 g833.length l834.length ++ [(254,.b false),(256,.b false)]) [(9,some (.box [.ptr 44 0 0])),(40,some (.box [.ref 5800 0 l828.length,.ref 5801 0 l829.length,.ref 5802 0 l830.length,.ref 5803 0 l831.length,.i v832])),(44,some (.box [.ref 5880 g833.length l834.length,.ref 5881 0 l835.length,.i v836])),(5800,R76 l828),(5801,R3 l829),(5802,R64 l830),(5803,R73 l831),(5880,R35 (g833 ++ l834)),(5881,R46 l835)]) ?_
    refine .rr 2 ?_
    refine .tt [(1,.ss a1),(2,.ls71 a2),(8,.ptr 40 0 0),(9,.ptr 9 0 0),(24,.i r927.2.2),(45,.lsi a0),(46,.i (a0.length : Int)),(47,.i v298),(248,.i r927.1),(249,.ptr 44 0 0),(250,.ptr 44 0 0),(251,.ptr 44 0 0),(252,.ref 5880 g833.length l834.length),(253,.i (l834.length : Int)),(254,.b false),(256,.b false),(257,.i r927.2.1),(258,.ptr 44 0 0)] [(9,some (.box [.ptr 44 0 0])),(40,some (.box [.ref 5800 0 l828.length,.ref 5801 0 l829.length,.ref 5802 0 l830.length,.ref 5803 0 l831.length,.i v832])),(44,some (.box [.ref 5880 g833.length l834.length,.ref 5881 0 l835.length,.i v836])),(5800,R76 l828),(5801,R3 l829),(5802,R64 l830),(5803,R73 l831),(5880,R35 (g833 ++ l834)),(5881,R46 l835)] ?_
    replace h := bsome h;obtain ⟨r938,hr938,h⟩ := h
    refine .callF (p22 N (S39.mk l834 l835 v836) g833 r938 hr938) [(44,1000),(5880,25000),(5881,25001)] [44] [(1000,44),(25000,5880),(25001,5881)] [(44,(.box [.ref 5880 g833.length r938.1.Backups.length,.ref 5881 0 r938.1.Changes.length,.i r938.1.Earliest])),(5880,(.arr 35 2 ((g833 ++ r938.1.Backups).map cS35))),(5881,(.arr 46 3 (r938.1.Changes.map cS46)))] (.i r938.2) (by simp) rfl (by simp <;> rfl) (by simp) (by simp) (by simp) (by simp) (by simp) ent22 (by simp) (by simp) (by simp) (by simp) (by simp) (by simp) ?_
    refine .st (mk 272 [] [(1,.ss a1),(2,.ls71 a2),(8,.ptr 40 0 0),(9,.ptr 9 0 0),(24,.i r927.2.2),(45,.lsi a0),(46,.i (a0.length : Int)),(47,.i v298),(248,.i r927.1),(249,.ptr 44 0 0),(250,.ptr 44 0 0),(251,.ptr 44 0 0),(253,.i (l834.length : Int)),(254,.b false),(256,.b false),(257,.i r927.2.1),(258,.ptr 44 0 0),(259,.i r938.2)] [(9,some (.box [.ptr 44 0 0])),(40,some (.box [.ref 5800 0 l828.length,.ref 5801 0 l829.length,.ref 5802 0 l830.length,.ref 5803 0 l831.length,.i v832])),(44,some (.box [.ref 5880 g833.length r938.1.Backups.length,.ref 5881 0 r938.1.Changes.length,.i r938.1.Earliest])),(5800,R76 l828),(5801,R3 l829),(5802,R64 l830),(5803,R73 l831),(5880,R35 (g833 ++ r938.1.Backups)),(5881,R46 r938.1.Changes)]) ?_
    refine .rr 3 ?_
    refine .tt (L85 a1 a2 r927.2.2 a0 a0.length v298 r927.1 l834.length r927.2.1 r938.2 ++ [(260,.b (r927.2.1 != r938.2)),(262,.b (r927.2.1 != r938.2))]) [(9,some (.box [.ptr 44 0 0])),(40,some (.box [.ref 5800 0 l828.length,.ref 5801 0 l829.length,.ref 5802 0 l830.length,.ref 5803 0 l831.length,.i v832])),(44,some (.box [.ref 5880 g833.length r938.1.Backups.length,.ref 5881 0 r938.1.Changes.length,.i r938.1.Earliest])),(5800,R76 l828),(5801,R3 l829),(5802,R64 l830),(5803,R73 l831),(5880,R35 (g833 ++ r938.1.Backups)),(5881,R46 r938.1.Changes)] ?_
    replace h := isome h;rcases h with ⟨c939,h⟩ | ⟨c939,h⟩
    ·have c939_ : (r927.2.1 != r938.2) = true := c939
     refine .sub (.bool 260 rfl c939_) ?_
     refine .sub (.bool 262 rfl c939_) ?_
     refine .st (mk 272 [] (L85 a1 a2 r927.2.2 a0 a0.length v298 r927.1 l834.length r927.2.1 r938.2 ++ [(260,.b true),(262,.b true)]) [(9,some (.box [.ptr 44 0 0])),(40,some (.box [.ref 5800 0 l828.length,.ref 5801 0 l829.length,.ref 5802 0 l830.length,.ref 5803 0 l831.length,.i v832])),(44,some (.box [.ref 5880 g833.length r938.1.Backups.length,.ref 5881 0 r938.1.Changes.length,.i r938.1.Earliest])),(5800,R76 l828),(5801,R3 l829),(5802,R64 l830),(5803,R73 l831),(5880,R35 (g833 ++ r938.1.Backups)),(5881,R46 r938.1.Changes)]) ?_
     refine .rr 8 ?_
     refine .tt (L84 a1 a2 a0 a0.length v298 r927.1 ++ [(253,.i (l834.length : Int)),(254,.b false),(257,.i r927.2.1),(258,.ptr 44 0 0),(259,.i r938.2),(260,.b true),(263,.tup []),(264,.tup []),(265,.tup []),(266,.tup []),(267,.tup []),(268,.tup []),(269,.tup []),(270,.b true)]) [(9,some (.box [.ptr 44 0 0])),(40,some (.box [.ref 5800 0 l828.length,.ref 5801 0 l829.length,.ref 5802 0 l830.length,.ref 5803 0 l831.length,.i v832])),(44,some (.box [.ref 5880 g833.length r938.1.Backups.length,.ref 5881 0 r938.1.Changes.length,.i r938.1.Earliest])),(5800,R76 l828),(5801,R3 l829),(5802,R64 l830),(5803,R73 l831),(5880,R35 (g833 ++ r938.1.Backups)),(5881,R46 r938.1.Changes)] ?_
     cases h
     exact .nil .tt
    have c939_ : (r927.2.1 != r938.2) = false := Bool.eq_false_iff.2 c939
    refine .sub (.bool 260 rfl c939_) ?_
    refine .sub (.bool 262 rfl c939_) ?_
    refine .st (mk 272 [] (L85 a1 a2 r927.2.2 a0 a0.length v298 r927.1 l834.length r927.2.1 r938.2 ++ [(260,.b false),(262,.b false)]) [(9,some (.box [.ptr 44 0 0])),(40,some (.box [.ref 5800 0 l828.length,.ref 5801 0 l829.length,.ref 5802 0 l830.length,.ref 5803 0 l831.length,.i v832])),(44,some (.box [.ref 5880 g833.length r938.1.Backups.length,.ref 5881 0 r938.1.Changes.length,.i r938.1.Earliest])),(5800,R76 l828),(5801,R3 l829),(5802,R64 l830),(5803,R73 l831),(5880,R35 (g833 ++ r938.1.Backups)),(5881,R46 r938.1.Changes)]) ?_
    refine .rr 8 ?_
    refine .tt (L84 a1 a2 a0 a0.length v298 r927.1 ++ [(253,.i (l834.length : Int)),(254,.b false),(257,.i r927.2.1),(258,.ptr 44 0 0),(259,.i r938.2),(260,.b false),(263,.i r927.2.2),(264,.ptr 44 0 0),(265,.ptr 44 0 0),(266,.ptr 44 0 1),(267,.ref 5881 0 r938.1.Changes.length),(268,.i (r938.1.Changes.length : Int)),(269,.b (r927.2.2 != (r938.1.Changes.length : Int))),(270,.b (r927.2.2 != (r938.1.Changes.length : Int)))]) [(9,some (.box [.ptr 44 0 0])),(40,some (.box [.ref 5800 0 l828.length,.ref 5801 0 l829.length,.ref 5802 0 l830.length,.ref 5803 0 l831.length,.i v832])),(44,some (.box [.ref 5880 g833.length r938.1.Backups.length,.ref 5881 0 r938.1.Changes.length,.i r938.1.Earliest])),(5800,R76 l828),(5801,R3 l829),(5802,R64 l830),(5803,R73 l831),(5880,R35 (g833 ++ r938.1.Backups)),(5881,R46 r938.1.Changes)] ?_
    cases h
    exact .nil .tt
   clear hj
   replace h := isome h;rcases h with ⟨c940,h⟩ | ⟨c940,h⟩
   ·have c940_ : v935 = true := c940
    refine .condT rfl c940_ ?_
    refine .seqR ?_
    refine .rr 1 ?_
    refine .tt [(6,.b false)] [] (.nil (.ret ?_))
    cases h
    refine blockQ.ret ?_
    refine thenQ_ps ?_
    refine PostIG.out (by simp) ?_
    rintro rfl
    refine blockQ.ret ?_
    refine PostJ.out (by simp) ?_
    rintro rfl
    refine thenQ_ps ?_
    exact FinC.rs
   have c940_ : v935 = false := Bool.eq_false_iff.2 c940
   refine .condF rfl c940_ ?_
   refine .skip (blockQ.normal (thenQ_normal (.region ?_)))
   replace h := csome h;obtain ⟨v941,hv941,h⟩ := h
   refine .rk 2 fun K k => ?_;simp [hv941];refine k ?_
   refine .tt (L60 a1 a2 a0 a0.length v941) [(9,some (.box [.ptr 44 0 0])),(40,some (.box [.ref 5800 0 l828.length,.ref 5801 0 l829.length,.ref 5802 0 l830.length,.ref 5803 0 l831.length,.i v832])),(44,some (.box [.ref 5880 g833.length l932.length,.ref 5881 0 l933.length,.i v934])),(5800,R76 l828),(5801,R3 l829),(5802,R64 l830),(5803,R73 l831),(5880,R35 (g833 ++ l932)),(5881,R46 l933)] (.nil ?_)
   cases h
   refine PostIG.next g833 ?_
   exact Sub.tt
  have c731_ : decide (v298 < (a0.length : Int)) = false := decide_eq_false c731
  refine .condF rfl c731_ ?_
  refine .exit ?_
  cases h
  refine thenQ_ps ?_
  refine PostIG.out (by simp) ?_
  rintro rfl
  refine blockQ.hit (PostJ.next ?_)
  exact Sub.tt
 rintro ⟨⟩ h
 refine thenQ_normal (.seqR ?_)
 refine .rr 1 ?_
 refine .tt [(6,.b true)] [] (.nil (.ret ?_))
 cases h
 exact FinC.rs
end Go.Proofs.Ytfdhaigfonolpaa
