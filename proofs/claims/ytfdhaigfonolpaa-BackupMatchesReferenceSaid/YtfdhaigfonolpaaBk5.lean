/- Functions of the program as functional programs; the code computes them. -/
import Derived.Test.YtfdhaigfonolpaaBk4
namespace Go.Proofs.Ytfdhaigfonolpaa
open Go.Ab Go.Rp
attribute [-simp] List.all_eq_true Array.all_toList Array.all_eq_true
def d11 (N : Nat) (a0 : S68) (a1 : Int) : Option (S68 × Int × Int) :=
 (d23 N a0).bind fun r1 =>
 if a1 ≤ r1 then (
  some (a0,0,6)
 ) else
 if a1 > 1099511627776 then (
  some (a0,0,2)
 ) else
 if ((a0.backups.length : Int) == 20) then (
  some (a0,0,18)
 ) else
 (d18 N a0 a1).bind fun r5 =>
 if (r5.2.1.length : Int) > 40 then (
  some (r5.1,0,18)
 ) else
 Option.bind (α := ((List S76) × (List Int) × (List Int) × Int)) (
  iterN (σ := ((List S76) × (List Int) × (List Int) × Int × Int)) (ρ := ((List S76) × (List Int) × (List Int) × Int)) (fun ((l50,l51,l52,v53,v54) : ((List S76) × (List Int) × (List Int) × Int × Int)) =>
   if v54 < (r5.2.1.length : Int) then (
    (idx r5.2.1 v54).bind fun x153 =>
    (d25 N (S68.mk l50 l51 r5.1.backups r5.1.changes r5.1.earliest) x153).bind fun r155 =>
    Option.bind (α := ((List S76) × (List Int) × Int × Int)) (
     if r155 < 0 then (
      (chkI (v53 + 1)).bind fun v176 =>
      (d26 N l51 0).bind fun r177 =>
      Option.bind (α := ((List S76) × (List Int) × Int)) (
       if r177 < 0 then (
        (appL 40 l50 [(S76.mk (ByteArray.mk #[]) ([] : List S71))]).bind fun _l185 =>
        (appL 8 l51 [0]).bind fun _l186 =>
        some ((l50 ++ [(S76.mk (ByteArray.mk #[]) ([] : List S71))]),(l51 ++ [0]),(l51.length : Int))
       ) else
       some (l50,l51,r177)
      ) fun ((l181,l182,v183) : ((List S76) × (List Int) × Int)) =>
      (idx l181 v183).bind fun _x187 =>
      letv (setI l181 v183 x153) fun l189 =>
      some (l189,l182,v176,v183)
     ) else
     some (l50,l51,v53,r155)
    ) fun ((l171,l172,v173,v174) : ((List S76) × (List Int) × Int × Int)) =>
    (idx l172 v174).bind fun x190 =>
    (chkI (x190 + 1)).bind fun v192 =>
    letv (setI l172 v174 v192) fun l193 =>
    (appL 8 l52 [v174]).bind fun _l194 =>
    (chkI (v54 + 1)).bind fun v195 =>
    some (.inl (l171,l193,(l52 ++ [v174]),v173,v195))
   ) else
   some (.inr (l50,l51,l52,v53))
  ) N (r5.1.records,r5.1.refs,([] : List Int),0,0)
 ) fun ((l148,l149,l150,v151) : ((List S76) × (List Int) × (List Int) × Int)) =>
 (appL 32 r5.1.backups [(S64.mk a1 l150)]).bind fun _l196 =>
 some ((S68.mk l148 l149 (r5.1.backups ++ [(S64.mk a1 l150)]) r5.1.changes r5.1.earliest),v151,0)
set_option maxRecDepth 100000 in
set_option maxHeartbeats 4000000 in
theorem p11 (N : Nat) (a0 : S68) (a1 : Int) (r : (S68 × Int × Int)) (h : d11 N a0 a1 = some r) : FunM Try.prog 11 [.ptr 1000 0 0,.i a1] [(1000,some (.box [.ref 25000 0 a0.records.length,.ref 25001 0 a0.refs.length,.ref 25002 0 a0.backups.length,.ref 25003 0 a0.changes.length,.i a0.earliest])),(25000,R76 a0.records),(25001,R3 a0.refs),(25002,R64 a0.backups),(25003,R73 a0.changes)] [1000] (.tup [.i r.2.1,.i r.2.2]) ([(1000,(.box [.ref 25000 0 r.1.records.length,.ref 25001 0 r.1.refs.length,.ref 25002 0 r.1.backups.length,.ref 25003 0 r.1.changes.length,.i r.1.earliest])),(25000,(.arr 76 2 (r.1.records.map cS76))),(25001,(.arr 3 1 (r.1.refs.map (cI .i64)))),(25002,(.arr 64 2 (r.1.backups.map cS64))),(25003,(.arr 73 3 (r.1.changes.map cS73)))]) := by
 unfold d11 at h
 refine FunM.enter 114 [(0,.ptr 1000 0 0),(1,.i a1)] Try.func11 rfl (of_decide_eq_true rfl) rfl rfl ?_
 refine .seqR ?_
 refine .rr 2 ?_
 refine .tt [(0,.ptr 1000 0 0),(1,.i a1)] (H1 a0) (.nil (.seq (.seqR ?_)))
 refine .rr 2 ?_
 refine .tt [(0,.ptr 1000 0 0),(1,.i a1),(13,.i a1),(14,.ptr 1000 0 0)] (H1 a0) ?_
 replace h := bsome h;obtain ⟨r1,hr1,h⟩ := h
 refine .callL (d := 15) (p23 N a0 r1 hr1) (by simp) rfl rfl (by simp <;> rfl) (by simp <;> rfl) ent23 (by simp <;> rfl) ?_
 refine .st (mk 114 [1000] [(0,.ptr 1000 0 0),(1,.i a1),(13,.i a1),(14,.ptr 1000 0 0),(15,.i r1)] (H1 a0)) ?_
 refine .rr 1 ?_
 refine .tt [(0,.ptr 1000 0 0),(1,.i a1),(16,.b (decide (a1 ≤ r1)))] (H1 a0) (.nil ?_)
 replace h := isome h;rcases h with ⟨c2,h⟩ | ⟨c2,h⟩
 ·have c2_ : decide (a1 ≤ r1) = true := decide_eq_true c2
  refine .condT rfl c2_ ?_
  refine .seqR ?_
  refine .rr 2 ?_
  refine .tt [(4,.i 0),(5,.i 6)] (H1 a0) (.nil (.ret ?_))
  cases h
  refine thenQ_ps ?_
  exact FinF.ret (by simp) (by simp)
 have c2_ : decide (a1 ≤ r1) = false := decide_eq_false c2
 refine .condF rfl c2_ ?_
 refine .skip (thenQ_normal (.seq (.seqR ?_)))
 refine .rr 2 ?_
 refine .tt [(0,.ptr 1000 0 0),(1,.i a1),(18,.b (decide (a1 > 1099511627776)))] (H1 a0) (.nil ?_)
 replace h := isome h;rcases h with ⟨c3,h⟩ | ⟨c3,h⟩
 ·have c3_ : decide (a1 > 1099511627776) = true := decide_eq_true c3
  refine .condT rfl c3_ ?_
  refine .seqR ?_
  refine .rr 2 ?_
  refine .tt [(4,.i 0),(5,.i 2)] (H1 a0) (.nil (.ret ?_))
  cases h
  refine thenQ_ps ?_
  exact FinF.ret (by simp) (by simp)
 have c3_ : decide (a1 > 1099511627776) = false := decide_eq_false c3
 refine .condF rfl c3_ ?_
 refine .skip (thenQ_normal (.seq (.seqR ?_)))
 refine .rr 6 ?_
 refine .tt [(0,.ptr 1000 0 0),(1,.i a1),(24,.b ((a0.backups.length : Int) == 20))] (H1 a0) (.nil ?_)
 replace h := isome h;rcases h with ⟨c4,h⟩ | ⟨c4,h⟩
 ·have c4_ : ((a0.backups.length : Int) == 20) = true := c4
  refine .condT rfl c4_ ?_
  refine .seqR ?_
  refine .rr 2 ?_
  refine .tt [(4,.i 0),(5,.i 18)] (H1 a0) (.nil (.ret ?_))
  cases h
  refine thenQ_ps ?_
  exact FinF.ret (by simp) (by simp)
 have c4_ : ((a0.backups.length : Int) == 20) = false := Bool.eq_false_iff.2 c4
 refine .condF rfl c4_ ?_
 refine .skip (thenQ_normal (.seqR ?_))
 refine .rr 2 ?_
 refine .tt [(0,.ptr 1000 0 0),(1,.i a1),(26,.ptr 1000 0 0),(27,.i a1)] (H1 a0) ?_
 replace h := bsome h;obtain ⟨r5,hr5,h⟩ := h
 refine .callF (p18 N a0 a1 r5 hr5) [(1000,1000),(25000,25000),(25001,25001),(25002,25002),(25003,25003)] [1000] [(1000,1000),(25000,25000),(25001,25001),(25002,25002),(25003,25003)] [(1000,(.box [.ref 25000 0 r5.1.records.length,.ref 25001 0 r5.1.refs.length,.ref 25002 0 r5.1.backups.length,.ref 25003 0 r5.1.changes.length,.d (.lit (.int .i64 r5.1.earliest))])),(25000,(.arr 76 2 (r5.1.records.map cS76))),(25001,(.arr 3 1 (r5.1.refs.map (cI .i64)))),(25002,(.arr 64 2 (r5.1.backups.map cS64))),(25003,(.arr 73 3 (r5.1.changes.map cS73)))] (.tup [.s76 r5.2.1,.d (.lit (.int .i64 r5.2.2))]) (by simp) rfl (by simp <;> rfl) (by simp) (by simp) (by simp) (by simp) (by simp) ent18 (by simp) (by simp) (by simp) (by simp) (by simp) (by simp) ?_
 refine .st (mk 114 [1000] [(0,.ptr 1000 0 0),(1,.i a1),(26,.ptr 1000 0 0),(27,.i a1),(28,.tup [.s76 r5.2.1,.i r5.2.2])] (H1 r5.1)) ?_
 refine .rr 5 ?_
 refine .tt [(0,.ptr 1000 0 0),(1,.i a1),(6,.s76 r5.2.1)] (H1 r5.1) (.nil (.seq (.seqR ?_)))
 refine .rr 3 ?_
 refine .tt [(0,.ptr 1000 0 0),(1,.i a1),(6,.s76 r5.2.1),(33,.b (decide ((r5.2.1.length : Int) > 40)))] (H1 r5.1) (.nil ?_)
 replace h := isome h;rcases h with ⟨c6,h⟩ | ⟨c6,h⟩
 ·have c6_ : decide ((r5.2.1.length : Int) > 40) = true := decide_eq_true c6
  refine .condT rfl c6_ ?_
  refine .seqR ?_
  refine .rr 2 ?_
  refine .tt [(4,.i 0),(5,.i 18)] (H1 r5.1) (.nil (.ret ?_))
  cases h
  refine thenQ_ps ?_
  exact FinF.ret (by simp) (by simp)
 have c6_ : decide ((r5.2.1.length : Int) > 40) = false := decide_eq_false c6
 refine .condF rfl c6_ ?_
 refine .skip (thenQ_normal (.seqR ?_))
 refine .rr 4 ?_
 refine .tt [(0,.ptr 1000 0 0),(6,.s76 r5.2.1),(8,.ptr 8 0 0)] (H11 a1 r5.1) (.nil (.seqR ?_))
 refine .rr 1 ?_
 refine .tt [(0,.ptr 1000 0 0),(6,.s76 r5.2.1),(8,.ptr 8 0 0),(9,.i 0)] (H11 a1 r5.1) (.nil (.seq (.seqR ?_)))
 refine .rr 3 ?_
 refine .tt [(0,.ptr 1000 0 0),(8,.ptr 8 0 0),(9,.i 0),(36,.s76 r5.2.1),(37,.i (r5.2.1.length : Int)),(38,.i 0)] (H11 a1 r5.1) (.nil ?_)
 refine .lastN (fun ((l148,l149,l150,v151) : ((List S76) × (List Int) × (List Int) × Int)) => mk 114 [1000] [(0,.ptr 1000 0 0),(8,.ptr 8 0 0),(9,.i v151)] (H9 a1 l150 l148 l149 r5.1)) h ?_ ?_ <;> clear h
 ·intro o h
  refine .block ?_
  refine .iter (fun ((l50,l51,l52,v53,v54) : ((List S76) × (List Int) × (List Int) × Int × Int)) => mk 114 [1000] (L19 v53 r5.2.1 r5.2.1.length v54) (H9 a1 l52 l50 l51 r5.1)) h (Sub.trans (Sub.nilOwnBox (bid := 8) (j := 1) (id := 100) (T := 3) (n := 1) rfl rfl (by decide) rfl (by decide)) (by simp;exact Sub.tt)) ?_
  clear h
  rintro ⟨l50,l51,l52,v53,v54⟩ x h
  dsimp only at h ⊢
  refine .seqR ?_
  refine .rr 1 ?_
  refine .tt (L19 v53 r5.2.1 r5.2.1.length v54 ++ [(39,.b (decide (v54 < (r5.2.1.length : Int))))]) (H9 a1 l52 l50 l51 r5.1) (.nil (.seq ?_))
  replace h := isome h;rcases h with ⟨c152,h⟩ | ⟨c152,h⟩
  ·have c152_ : decide (v54 < (r5.2.1.length : Int)) = true := decide_eq_true c152
   refine .condT rfl c152_ ?_
   refine .skip (thenQ_normal (.seq (.block (.seqR ?_))))
   replace h := xsome h;obtain ⟨x153,k154,hx153k,hx153,hx153a,hx153b,h⟩ := h
   refine .rk 4 fun K k => ?_;simp [hx153,hx153k,hx153a];refine k ?_
   refine .tt (L20 v53 r5.2.1 r5.2.1.length v54) [(8,some (.box [.i a1,.ref 100 0 l52.length])),(11,some (.box [.s x153.Key,.s71 x153.Row])),(100,R3 l52),(1000,some (.box [.ref 25000 0 l50.length,.ref 25001 0 l51.length,.ref 25002 0 r5.1.backups.length,.ref 25003 0 r5.1.changes.length,.i r5.1.earliest])),(25000,R76 l50),(25001,R3 l51),(25002,R64 r5.1.backups),(25003,R73 r5.1.changes)] (.nil (.seqR ?_))
   refine .rr 2 ?_
   refine .tt (L20 v53 r5.2.1 r5.2.1.length v54 ++ [(42,.ptr 1000 0 0),(43,.agg [.s x153.Key,.s71 x153.Row])]) [(8,some (.box [.i a1,.ref 100 0 l52.length])),(11,some (.box [.s x153.Key,.s71 x153.Row])),(100,R3 l52),(1000,some (.box [.ref 25000 0 l50.length,.ref 25001 0 l51.length,.ref 25002 0 r5.1.backups.length,.ref 25003 0 r5.1.changes.length,.i r5.1.earliest])),(25000,R76 l50),(25001,R3 l51),(25002,R64 r5.1.backups),(25003,R73 r5.1.changes)] ?_
   replace h := bsome h;obtain ⟨r155,hr155,h⟩ := h
   refine .callL (d := 44) (p25 N (S68.mk l50 l51 r5.1.backups r5.1.changes r5.1.earliest) x153 r155 hr155) (by simp) rfl rfl (by simp <;> rfl) (by simp <;> rfl) ent25 (by simp <;> rfl) ?_
   refine .st (mk 114 [1000] (L20 v53 r5.2.1 r5.2.1.length v54 ++ [(42,.ptr 1000 0 0),(43,.agg [.s x153.Key,.s71 x153.Row]),(44,.i r155)]) [(8,some (.box [.i a1,.ref 100 0 l52.length])),(11,some (.box [.s x153.Key,.s71 x153.Row])),(100,R3 l52),(1000,some (.box [.ref 25000 0 l50.length,.ref 25001 0 l51.length,.ref 25002 0 r5.1.backups.length,.ref 25003 0 r5.1.changes.length,.i r5.1.earliest])),(25000,R76 l50),(25001,R3 l51),(25002,R64 r5.1.backups),(25003,R73 r5.1.changes)]) ?_
   refine .rr 1 ?_
   refine .tt (L21 v53 r155 r5.2.1 r5.2.1.length v54) [(8,some (.box [.i a1,.ref 100 0 l52.length])),(11,some (.box [.s x153.Key,.s71 x153.Row])),(100,R3 l52),(1000,some (.box [.ref 25000 0 l50.length,.ref 25001 0 l51.length,.ref 25002 0 r5.1.backups.length,.ref 25003 0 r5.1.changes.length,.i r5.1.earliest])),(25000,R76 l50),(25001,R3 l51),(25002,R64 r5.1.backups),(25003,R73 r5.1.changes)] (.nil (.seq (.seqR ?_)))
   refine .rr 2 ?_
   refine .tt (L21 v53 r155 r5.2.1 r5.2.1.length v54 ++ [(46,.b (decide (r155 < 0)))]) [(8,some (.box [.i a1,.ref 100 0 l52.length])),(11,some (.box [.s x153.Key,.s71 x153.Row])),(100,R3 l52),(1000,some (.box [.ref 25000 0 l50.length,.ref 25001 0 l51.length,.ref 25002 0 r5.1.backups.length,.ref 25003 0 r5.1.changes.length,.i r5.1.earliest])),(25000,R76 l50),(25001,R3 l51),(25002,R64 r5.1.backups),(25003,R73 r5.1.changes)] (.nil ?_)
   refine .lastN (fun ((l171,l172,v173,v174) : ((List S76) × (List Int) × Int × Int)) => mk 114 [1000] (L22 v173 v174 r5.2.1 r5.2.1.length v54) (H9 a1 l52 l171 l172 r5.1)) h ?_ ?_ <;> clear h
   ·intro o h
    replace h := isome h;rcases h with ⟨c175,h⟩ | ⟨c175,h⟩
    ·have c175_ : decide (r155 < 0) = true := decide_eq_true c175
     refine .condT rfl c175_ ?_
     refine .seqR ?_
     replace h := csome h;obtain ⟨v176,hv176,h⟩ := h
     refine .rk 3 fun K k => ?_;simp [hv176];refine k ?_
     refine .tt (L20 v176 r5.2.1 r5.2.1.length v54) [(8,some (.box [.i a1,.ref 100 0 l52.length])),(11,some (.box [.s x153.Key,.s71 x153.Row])),(100,R3 l52),(1000,some (.box [.ref 25000 0 l50.length,.ref 25001 0 l51.length,.ref 25002 0 r5.1.backups.length,.ref 25003 0 r5.1.changes.length,.i r5.1.earliest])),(25000,R76 l50),(25001,R3 l51),(25002,R64 r5.1.backups),(25003,R73 r5.1.changes)] (.nil (.seq (.seqR ?_)))
     refine .rr 4 ?_
     refine .tt (L20 v176 r5.2.1 r5.2.1.length v54 ++ [(52,.ref 25001 0 l51.length)]) [(8,some (.box [.i a1,.ref 100 0 l52.length])),(11,some (.box [.s x153.Key,.s71 x153.Row])),(100,R3 l52),(1000,some (.box [.ref 25000 0 l50.length,.ref 25001 0 l51.length,.ref 25002 0 r5.1.backups.length,.ref 25003 0 r5.1.changes.length,.i r5.1.earliest])),(25000,R76 l50),(25001,R3 l51),(25002,R64 r5.1.backups),(25003,R73 r5.1.changes)] ?_
     replace h := bsome h;obtain ⟨r177,hr177,h⟩ := h
     refine .callL (d := 53) (p26 N l51 0 r177 hr177) (by simp) rfl rfl (by simp <;> rfl) (by simp <;> rfl) ent26 (by simp <;> rfl) ?_
     refine .st (mk 114 [1000] (L20 v176 r5.2.1 r5.2.1.length v54 ++ [(52,.ref 25001 0 l51.length),(53,.i r177)]) [(8,some (.box [.i a1,.ref 100 0 l52.length])),(11,some (.box [.s x153.Key,.s71 x153.Row])),(100,R3 l52),(1000,some (.box [.ref 25000 0 l50.length,.ref 25001 0 l51.length,.ref 25002 0 r5.1.backups.length,.ref 25003 0 r5.1.changes.length,.i r5.1.earliest])),(25000,R76 l50),(25001,R3 l51),(25002,R64 r5.1.backups),(25003,R73 r5.1.changes)]) ?_
     refine .rr 1 ?_
     refine .tt (L21 v176 r177 r5.2.1 r5.2.1.length v54) [(8,some (.box [.i a1,.ref 100 0 l52.length])),(11,some (.box [.s x153.Key,.s71 x153.Row])),(100,R3 l52),(1000,some (.box [.ref 25000 0 l50.length,.ref 25001 0 l51.length,.ref 25002 0 r5.1.backups.length,.ref 25003 0 r5.1.changes.length,.i r5.1.earliest])),(25000,R76 l50),(25001,R3 l51),(25002,R64 r5.1.backups),(25003,R73 r5.1.changes)] (.nil (.seqR ?_))
     refine .rr 2 ?_
     refine .tt (L21 v176 r177 r5.2.1 r5.2.1.length v54 ++ [(55,.b (decide (r177 < 0)))]) [(8,some (.box [.i a1,.ref 100 0 l52.length])),(11,some (.box [.s x153.Key,.s71 x153.Row])),(100,R3 l52),(1000,some (.box [.ref 25000 0 l50.length,.ref 25001 0 l51.length,.ref 25002 0 r5.1.backups.length,.ref 25003 0 r5.1.changes.length,.i r5.1.earliest])),(25000,R76 l50),(25001,R3 l51),(25002,R64 r5.1.backups),(25003,R73 r5.1.changes)] (.nil ?_)
     refine .lastN (fun ((l181,l182,v183) : ((List S76) × (List Int) × Int)) => mk 114 [1000] (L21 v176 v183 r5.2.1 r5.2.1.length v54) [(8,some (.box [.i a1,.ref 100 0 l52.length])),(11,some (.box [.s x153.Key,.s71 x153.Row])),(100,R3 l52),(1000,some (.box [.ref 25000 0 l181.length,.ref 25001 0 l182.length,.ref 25002 0 r5.1.backups.length,.ref 25003 0 r5.1.changes.length,.i r5.1.earliest])),(25000,R76 l181),(25001,R3 l182),(25002,R64 r5.1.backups),(25003,R73 r5.1.changes)]) h ?_ ?_ <;> clear h
     ·intro o h
      replace h := isome h;rcases h with ⟨c184,h⟩ | ⟨c184,h⟩
      ·have c184_ : decide (r177 < 0) = true := decide_eq_true c184
       refine .condT rfl c184_ ?_
       refine .seqR ?_
       refine .rr 6 ?_
       refine .tt [(0,.ptr 1000 0 0),(8,.ptr 8 0 0),(9,.i v176),(11,.ptr 11 0 0),(12,.i (l51.length : Int)),(36,.s76 r5.2.1),(37,.i (r5.2.1.length : Int)),(38,.i v54)] [(8,some (.box [.i a1,.ref 100 0 l52.length])),(11,some (.box [.s x153.Key,.s71 x153.Row])),(100,R3 l52),(1000,some (.box [.ref 25000 0 l50.length,.ref 25001 0 l51.length,.ref 25002 0 r5.1.backups.length,.ref 25003 0 r5.1.changes.length,.i r5.1.earliest])),(25000,R76 l50),(25001,R3 l51),(25002,R64 r5.1.backups),(25003,R73 r5.1.changes)] (.nil ?_)
       replace h := bsome h;obtain ⟨l185,hl185,h⟩ := h
       obtain ⟨hl185a,hl185⟩ := appL_some hl185
       subst hl185
       try simp only [List.length_cons,List.length_nil,Nat.zero_add] at hl185a
       replace h := bsome h;obtain ⟨l186,hl186,h⟩ := h
       obtain ⟨hl186a,hl186⟩ := appL_some hl186
       subst hl186
       try simp only [List.length_cons,List.length_nil,Nat.zero_add] at hl186a
       refine .lastAnyS [[],[],[],[2],[2,3],[2,3,4],[],[6],[2,3,4,5,6,7],[],[9],[9,10],[9,10,11],[],[2,3,4,5,6,7,8,9,10,11,12,13],[0,2,3,4,5,6,7,8,9,10,11,12,13,14],[0,2,3,4,5,6,7,8,9,10,11,12,13,14,15],[0,2,3,4,5,6,7,8,9,10,11,12,13,14,15,16],[0,1,2,3,4,5,6,7,8,9,10,11,12,13,14,15,16,17],[0,1,2,3,4,5,6,7,8,9,10,11,12,13,14,15,16,17,18],[0,1,2,3,4,5,6,7,8,9,10,11,12,13,14,15,16,17,18,19]] (fun (b : Nat → Bool) => mk 114 [1000] [(0,.ptr 1000 0 0),(8,.ptr 8 0 0),(9,.i v176),(11,.ptr 11 0 0),(12,.i (l51.length : Int)),(36,.s76 r5.2.1),(37,.i (r5.2.1.length : Int)),(38,.i v54),(61,(if b 0 then .ptr 1000 0 0 else .junk)),(62,(if b 1 then .ptr 1000 0 0 else .junk)),(63,(if b 2 then .ptr 1000 0 0 else .junk)),(64,(if b 3 then .ptr 1000 0 0 else .junk)),(65,(if b 4 then .ptr 1000 0 0 else .junk)),(66,(if b 8 then .junk else (if b 5 then .ref 25000 0 l50.length else .junk))),(67,(if b 6 then .agg [.s (ByteArray.mk #[]),.s71 ([] : List S71)] else .junk)),(68,(if b 7 then .d (.sl ([(S76.mk (ByteArray.mk #[]) ([] : List S71))].map cS76)) else .junk)),(69,(if b 8 then .ref 25000 0 ((l50 ++ [(S76.mk (ByteArray.mk #[]) ([] : List S71))]).length) else .junk)),(70,(if b 9 then .ptr 1000 0 0 else .junk)),(71,(if b 10 then .ptr 1000 0 0 else .junk)),(72,(if b 11 then .ptr 1000 0 1 else .junk)),(73,(if b 14 then .junk else (if b 12 then .ref 25001 0 l51.length else .junk))),(74,(if b 13 then .d (.sl ([0].map (cI .i64))) else .junk)),(75,(if b 14 then .ref 25001 0 ((l51 ++ [0]).length) else .junk)),(76,(if b 15 then .ptr 1000 0 0 else .junk)),(77,(if b 16 then .ptr 1000 0 0 else .junk)),(78,(if b 18 then .ptr 1000 0 0 else .junk)),(79,(if b 19 then .ptr 1000 0 1 else .junk))] [(8,some (.box [.i a1,.ref 100 0 l52.length])),(11,some (.box [.s x153.Key,.s71 x153.Row])),(100,R3 l52),(1000,(if b 20 then some (.box [.ref 25000 0 ((l50 ++ [(S76.mk (ByteArray.mk #[]) ([] : List S71))]).length),.ref 25001 0 ((l51 ++ [0]).length),.ref 25002 0 r5.1.backups.length,.ref 25003 0 r5.1.changes.length,.i r5.1.earliest]) else (if b 17 then some (.box [.ref 25000 0 ((l50 ++ [(S76.mk (ByteArray.mk #[]) ([] : List S71))]).length),.hole,.ref 25002 0 r5.1.backups.length,.ref 25003 0 r5.1.changes.length,.i r5.1.earliest]) else (if b 14 then some (.box [.hole,.hole,.ref 25002 0 r5.1.backups.length,.ref 25003 0 r5.1.changes.length,.i r5.1.earliest]) else (if b 8 then some (.box [.hole,.ref 25001 0 l51.length,.ref 25002 0 r5.1.backups.length,.ref 25003 0 r5.1.changes.length,.i r5.1.earliest]) else some (.box [.ref 25000 0 l50.length,.ref 25001 0 l51.length,.ref 25002 0 r5.1.backups.length,.ref 25003 0 r5.1.changes.length,.i r5.1.earliest])))))),(25000,(if b 8 then R76 (l50 ++ [(S76.mk (ByteArray.mk #[]) ([] : List S71))]) else R76 l50)),(25001,(if b 14 then R3 (l51 ++ [0]) else R3 l51)),(25002,R64 r5.1.backups),(25003,R73 r5.1.changes)]) (mk 114 [1000] [(0,.ptr 1000 0 0),(8,.ptr 8 0 0),(9,.i v176),(11,.ptr 11 0 0),(12,.i (l51.length : Int)),(36,.s76 r5.2.1),(37,.i (r5.2.1.length : Int)),(38,.i v54)] [(8,some (.box [.i a1,.ref 100 0 l52.length])),(11,some (.box [.s x153.Key,.s71 x153.Row])),(100,R3 l52),(1000,some (.box [.ref 25000 0 ((l50 ++ [(S76.mk (ByteArray.mk #[]) ([] : List S71))]).length),.ref 25001 0 ((l51 ++ [0]).length),.ref 25002 0 r5.1.backups.length,.ref 25003 0 r5.1.changes.length,.i r5.1.earliest])),(25000,R76 (l50 ++ [(S76.mk (ByteArray.mk #[]) ([] : List S71))])),(25001,R3 (l51 ++ [0])),(25002,R64 r5.1.backups),(25003,R73 r5.1.changes)]) (by kernel_rfl) (by kernel_rfl) Sub.tt (Steps.cons ?_ (Steps.cons ?_ (Steps.cons ?_ (Steps.cons ?_ (Steps.cons ?_ (Steps.cons ?_ (Steps.cons ?_ (Steps.cons ?_ (Steps.cons ?_ (Steps.cons ?_ (Steps.cons ?_ (Steps.cons ?_ (Steps.cons ?_ (Steps.cons ?_ (Steps.cons ?_ (Steps.cons ?_ (Steps.cons ?_ (Steps.cons ?_ (Steps.cons ?_ (Steps.cons ?_ (Steps.cons ?_ (Steps.nil)))))))))))))))))))))) ?_ ?_
       iterate 6
        ·intro b h0 ha hd
         have T := fct h0 ha hd;simp at T
         refine .runK [74,68] 1 fun K k => ?_;simp [T];refine k _ _ ?_;clear k K
         exact .nil .tT
       ·intro b h0 ha hd
        have T := fct h0 ha hd;simp at T
        refine .runK [74,68] 1 fun K k => ?_;simp [T];refine k _ _ ?_;clear k K
        refine .sub (.wk 67 rfl) ?_
        exact .nil (by simp [T];exact Sub.tT)
       ·intro b h0 ha hd
        have T := fct h0 ha hd;simp at T
        refine .runK [74,68] 1 fun K k => ?_;simp [T];refine k _ _ ?_;clear k K
        exact .nil .tT
       iterate 4
        ·intro b h0 ha hd
         have T := fct h0 ha hd;simp at T
         refine .runK [74,68] 1 fun K k => ?_;simp [T,hl185a];refine k _ _ ?_;clear k K
         exact .nil .tT
       iterate 2
        ·intro b h0 ha hd
         have T := fct h0 ha hd;simp at T
         cases q8 : b 8 <;> (refine Chain.runK [74,68] 1 fun K k => ?_;simp [T];refine k _ _ ?_;clear k K;exact .nil (.table (by simp [T,q8]) (by simp [T,q8])))
       iterate 7
        ·intro b h0 ha hd
         have T := fct h0 ha hd;simp at T
         refine .runK [74,68] 1 fun K k => ?_;simp [T,hl186a];refine k _ _ ?_;clear k K
         exact .nil .tT
       ·intro b hb
        have T := FA_of (n := 21) hb;simp at T
        exact Sub.tT
       skip
       cases h
       refine PostN.next ?_
       exact Sub.tt
      have c184_ : decide (r177 < 0) = false := decide_eq_false c184
      refine .condF rfl c184_ ?_
      refine .skip ?_
      cases h
      refine PostN.next ?_
      exact Sub.tt
     rintro ⟨l181,l182,v183⟩ h
     dsimp only at h ⊢
     refine thenQ_normal ?_
     replace h := xsome h;obtain ⟨x187,k188,hx187k,hx187,hx187a,hx187b,h⟩ := h
     refine .regionT 7 (by kernel_rfl) (by kernel_rfl) fun K k => ?_;simp [hx187k,hx187a,hx187b];refine k _ _ ?_;clear k K
     refine .tt (L22 v176 v183 r5.2.1 r5.2.1.length v54 ++ [(85,.agg [.s x153.Key,.s71 x153.Row]),(86,.ptr 25000 k188 0)]) (H9 a1 l52 l181 l182 r5.1) ?_
     replace h := lsome h;obtain ⟨l189,gl189,h⟩ := h
     obtain ⟨hl189,hl189n⟩ := setI_some cS76 gl189 hx187k
     replace hl189 : (l181.map cS76).set k188 [.lit (.string x153.Key),.sl (x153.Row.map cS71)] = l189.map cS76 := hl189
     clear gl189
     refine .rk 1 fun K k => ?_;simp [hx187,hl189];refine k ?_
     refine .sub (S' := mk 114 [1000] (L22 v176 v183 r5.2.1 r5.2.1.length v54) (H9 a1 l52 l189 l182 r5.1)) (Sub.table (by simp) (by simp [hl189n])) ?_
     refine .nil ?_
     cases h
     refine PostN.next ?_
     exact Sub.tt
    have c175_ : decide (r155 < 0) = false := decide_eq_false c175
    refine .condF rfl c175_ ?_
    refine .skip ?_
    cases h
    refine PostN.next ?_
    exact Sub.tt
   rintro ⟨l171,l172,v173,v174⟩ h
   dsimp only at h ⊢
   refine thenQ_normal (.seqR ?_)
   replace h := xsome h;obtain ⟨x190,k191,hx190k,hx190,hx190a,hx190b,h⟩ := h
   replace h := csome h;obtain ⟨v192,hv192,h⟩ := h
   replace h := lsome h;obtain ⟨l193,gl193,h⟩ := h
   obtain ⟨hl193,hl193n⟩ := setI_some (cI .i64) gl193 hx190k
   replace hl193 : (l172.map (cI .i64)).set k191 [.lit (.int .i64 v192)] = l193.map (cI .i64) := hl193
   clear gl193
   refine .rk 10 fun K k => ?_;simp [hx190,hx190k,hx190a,hx190b,hv192,hl193];refine k ?_
   refine .sub (S' := mk 114 [1000] (L22 v173 v174 r5.2.1 r5.2.1.length v54) (H9 a1 l52 l171 l193 r5.1)) (Sub.table (by simp) (by simp [hl193n])) ?_
   refine .nil (.region ?_)
   replace h := bsome h;obtain ⟨l194,hl194,h⟩ := h
   obtain ⟨hl194a,hl194⟩ := appL_some hl194
   subst hl194
   try simp only [List.length_cons,List.length_nil,Nat.zero_add] at hl194a
   refine .runK [99] 7 fun K k => ?_;simp [hl194a];refine k _ _ ?_;clear k K
   refine .tt (L19 v173 r5.2.1 r5.2.1.length v54) [(8,some (.box [.i a1,.ref 100 0 ((l52 ++ [v174]).length)])),(100,R3 (l52 ++ [v174])),(1000,some (.box [.ref 25000 0 l171.length,.ref 25001 0 l193.length,.ref 25002 0 r5.1.backups.length,.ref 25003 0 r5.1.changes.length,.i r5.1.earliest])),(25000,R76 l171),(25001,R3 l193),(25002,R64 r5.1.backups),(25003,R73 r5.1.changes)] (.nil (blockQ.normal (thenQ_normal (.region ?_))))
   replace h := csome h;obtain ⟨v195,hv195,h⟩ := h
   refine .rk 2 fun K k => ?_;simp [hv195];refine k ?_
   refine .tt (L19 v173 r5.2.1 r5.2.1.length v195) [(8,some (.box [.i a1,.ref 100 0 ((l52 ++ [v174]).length)])),(100,R3 (l52 ++ [v174])),(1000,some (.box [.ref 25000 0 l171.length,.ref 25001 0 l193.length,.ref 25002 0 r5.1.backups.length,.ref 25003 0 r5.1.changes.length,.i r5.1.earliest])),(25000,R76 l171),(25001,R3 l193),(25002,R64 r5.1.backups),(25003,R73 r5.1.changes)] (.nil ?_)
   cases h
   refine PostI.next ?_
   exact Sub.tt
  have c152_ : decide (v54 < (r5.2.1.length : Int)) = false := decide_eq_false c152
  refine .condF rfl c152_ ?_
  refine .exit ?_
  cases h
  refine thenQ_ps ?_
  refine PostI.os ?_
  rintro rfl
  refine blockQ.hit (PostN.next ?_)
  exact Sub.tt
 rintro ⟨l148,l149,l150,v151⟩ h
 dsimp only at h ⊢
 refine thenQ_normal ?_
 refine .sub (.freeze 100 rfl) ?_
 refine .st (mk 114 [1000] [(0,.ptr 1000 0 0),(8,.ptr 8 0 0),(9,.i v151)] [(8,some (.box [.i a1,.si l150])),(1000,some (.box [.ref 25000 0 l148.length,.ref 25001 0 l149.length,.ref 25002 0 r5.1.backups.length,.ref 25003 0 r5.1.changes.length,.i r5.1.earliest])),(25000,R76 l148),(25001,R3 l149),(25002,R64 r5.1.backups),(25003,R73 r5.1.changes)]) ?_
 replace h := bsome h;obtain ⟨l196,hl196,h⟩ := h
 obtain ⟨hl196a,hl196⟩ := appL_some hl196
 subst hl196
 try simp only [List.length_cons,List.length_nil,Nat.zero_add] at hl196a
 refine .seqAnyS [[],[],[1],[1,2],[1,2,3],[],[5],[1,2,3,4,5,6],[0,1,2,3,4,5,6,7],[0,1,2,3,4,5,6,7,8],[0,1,2,3,4,5,6,7,8,9]] (fun (b : Nat → Bool) => mk 114 [1000] [(0,.ptr 1000 0 0),(8,.ptr 8 0 0),(9,.i v151),(103,(if b 0 then .ptr 1000 0 0 else .junk)),(104,(if b 1 then .ptr 1000 0 0 else .junk)),(105,(if b 2 then .ptr 1000 0 0 else .junk)),(106,(if b 3 then .ptr 1000 0 2 else .junk)),(107,(if b 7 then .junk else (if b 4 then .ref 25002 0 r5.1.backups.length else .junk))),(108,(if b 5 then .agg [.i a1,.si l150] else .junk)),(109,(if b 6 then .d (.sl ([(S64.mk a1 l150)].map cS64)) else .junk)),(110,(if b 7 then .ref 25002 0 ((r5.1.backups ++ [(S64.mk a1 l150)]).length) else .junk)),(111,(if b 8 then .ptr 1000 0 0 else .junk)),(112,(if b 9 then .ptr 1000 0 2 else .junk))] [(8,some (.box [.i a1,.si l150])),(1000,(if b 10 then some (.box [.ref 25000 0 l148.length,.ref 25001 0 l149.length,.ref 25002 0 ((r5.1.backups ++ [(S64.mk a1 l150)]).length),.ref 25003 0 r5.1.changes.length,.i r5.1.earliest]) else (if b 7 then some (.box [.ref 25000 0 l148.length,.ref 25001 0 l149.length,.hole,.ref 25003 0 r5.1.changes.length,.i r5.1.earliest]) else some (.box [.ref 25000 0 l148.length,.ref 25001 0 l149.length,.ref 25002 0 r5.1.backups.length,.ref 25003 0 r5.1.changes.length,.i r5.1.earliest])))),(25000,R76 l148),(25001,R3 l149),(25002,(if b 7 then R64 (r5.1.backups ++ [(S64.mk a1 l150)]) else R64 r5.1.backups)),(25003,R73 r5.1.changes)]) (mk 114 [1000] [(9,.i v151)] [(1000,some (.box [.ref 25000 0 l148.length,.ref 25001 0 l149.length,.ref 25002 0 ((r5.1.backups ++ [(S64.mk a1 l150)]).length),.ref 25003 0 r5.1.changes.length,.i r5.1.earliest])),(25000,R76 l148),(25001,R3 l149),(25002,R64 (r5.1.backups ++ [(S64.mk a1 l150)])),(25003,R73 r5.1.changes)]) (by kernel_rfl) (by kernel_rfl) Sub.tt (Steps.cons ?_ (Steps.cons ?_ (Steps.cons ?_ (Steps.cons ?_ (Steps.cons ?_ (Steps.cons ?_ (Steps.cons ?_ (Steps.cons ?_ (Steps.cons ?_ (Steps.cons ?_ (Steps.cons ?_ (Steps.nil)))))))))))) ?_ ?_
 iterate 7
  ·intro b h0 ha hd
   have T := fct h0 ha hd;simp at T
   refine .runK [109] 1 fun K k => ?_;simp [T];refine k _ _ ?_;clear k K
   exact .nil .tT
 iterate 4
  ·intro b h0 ha hd
   have T := fct h0 ha hd;simp at T
   refine .runK [109] 1 fun K k => ?_;simp [T,hl196a];refine k _ _ ?_;clear k K
   exact .nil .tT
 ·intro b hb
  have T := FA_of (n := 11) hb;simp at T
  exact Sub.tT
 skip
 refine .seqR ?_
 refine .rr 3 ?_
 refine .tt [(4,.i v151),(5,.i 0)] [(1000,some (.box [.ref 25000 0 l148.length,.ref 25001 0 l149.length,.ref 25002 0 ((r5.1.backups ++ [(S64.mk a1 l150)]).length),.ref 25003 0 r5.1.changes.length,.i r5.1.earliest])),(25000,R76 l148),(25001,R3 l149),(25002,R64 (r5.1.backups ++ [(S64.mk a1 l150)])),(25003,R73 r5.1.changes)] (.nil (.ret ?_))
 cases h
 exact FinF.ret (by simp) (by simp)
end Go.Proofs.Ytfdhaigfonolpaa
