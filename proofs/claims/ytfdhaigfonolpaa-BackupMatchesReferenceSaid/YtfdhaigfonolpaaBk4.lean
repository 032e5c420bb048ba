/- Functions of the program as functional programs; the code computes them. -/
import Derived.Test.YtfdhaigfonolpaaBk3
namespace Go.Proofs.Ytfdhaigfonolpaa
set_option maxRecDepth 100000
set_option maxHeartbeats 4000000
open Go.Ab Go.Rp
attribute [-simp] List.all_eq_true Array.all_toList Array.all_eq_true
def d30 (N : Nat) (a0 : (List S71)) (a1 : (List S71)) : Option Bool :=
 if ((a0.length : Int) != (a1.length : Int)) then (
  some false
 ) else
 bindO (β := Unit) (ρ := Bool) (
  iterN (σ := Int) (ρ := (Out Unit Bool)) (fun (v7 : Int) =>
   if v7 < (a0.length : Int) then (
    (idx a0 v7).bind fun x22 =>
    (idx a1 v7).bind fun x24 =>
    if (!beqS71 x22 x24) = true then (
     some (.inr (.ret false))
    ) else
    (chkI (v7 + 1)).bind fun v26 =>
    some (.inl v26)
   ) else
   some (.inr (.go ()))
  ) N 0
 ) fun (_ : Unit) =>
 some true
theorem p30 (N : Nat) (a0 : (List S71)) (a1 : (List S71)) (r : Bool) (h : d30 N a0 a1 = some r) : FunC Try.prog 30 [.s71 a0,.s71 a1] (.b r) := by
 unfold d30 at h
 refine FunC.enter 26 [(0,.s71 a0),(1,.s71 a1)] (by simp) Try.func30 rfl (of_decide_eq_true rfl) rfl rfl ?_
 refine .seqR ?_
 refine .rr 1 ?_
 refine .tt [(0,.s71 a0),(1,.s71 a1)] [] (.nil (.seq (.seqR ?_)))
 refine .rr 5 ?_
 refine .tt [(0,.s71 a0),(1,.s71 a1),(10,.b ((a0.length : Int) != (a1.length : Int)))] [] (.nil ?_)
 replace h := isome h;rcases h with ⟨c1,h⟩ | ⟨c1,h⟩
 ·have c1_ : ((a0.length : Int) != (a1.length : Int)) = true := c1
  refine .condT rfl c1_ ?_
  refine .seqR ?_
  refine .rr 1 ?_
  refine .tt [(4,.b false)] [] (.nil (.ret ?_))
  cases h
  refine thenQ_ps ?_
  exact FinC.rs
 have c1_ : ((a0.length : Int) != (a1.length : Int)) = false := Bool.eq_false_iff.2 c1
 refine .condF rfl c1_ ?_
 refine .skip (thenQ_normal (.seq (.seqR ?_)))
 refine .rr 3 ?_
 refine .tt [(0,.s71 a0),(1,.s71 a1),(12,.i (a0.length : Int)),(13,.i 0)] [] (.nil ?_)
 refine .lastJ (fun (_ : Unit) => mk 26 [] [] []) h ?_ ?_ <;> clear h
 ·intro o h
  refine .block ?_
  refine .iter (fun (v7 : Int) => mk 26 [] (L13 a0 a1 a0.length v7) []) h Sub.tt ?_
  clear h
  rintro v7 x h
  refine .seqR ?_
  refine .rr 1 ?_
  refine .tt (L13 a0 a1 a0.length v7 ++ [(14,.b (decide (v7 < (a0.length : Int))))]) [] (.nil (.seq ?_))
  replace h := isome h;rcases h with ⟨c21,h⟩ | ⟨c21,h⟩
  ·have c21_ : decide (v7 < (a0.length : Int)) = true := decide_eq_true c21
   refine .condT rfl c21_ ?_
   refine .skip (thenQ_normal (.seq (.block (.seqR ?_))))
   refine .rr 2 ?_
   refine .tt [(0,.s71 a0),(1,.s71 a1),(5,.i v7),(12,.i (a0.length : Int)),(13,.i v7)] [] (.nil ?_)
   refine .seqQ (by kernel_rfl) (by kernel_rfl) ?_
   replace h := xsome h;obtain ⟨x22,k23,hx22k,hx22,hx22a,hx22b,h⟩ := h
   replace h := bsome h;obtain ⟨x24,hx24,h⟩ := h
   obtain ⟨hx24,hx24a,hx24b⟩ := idx_some2 hx24 hx22k
   refine .rq 8 fun K k => ?_;simp [hx22,hx22a,hx24,hx22k];refine k ?_
   refine .tt (L13 a0 a1 a0.length v7 ++ [(19,.agg [.i x22.Kind,.i x22.Int,.s x22.Text]),(23,.agg [.i x24.Kind,.i x24.Int,.s x24.Text])]) [] ?_
   refine .pureP (by simp) (pure_eqA true rfl rfl rfl rfl (by kernel_rfl) (eqv71 x22 x24)) ?_
   refine .st (mk 26 [] (L13 a0 a1 a0.length v7 ++ [(19,.agg [.i x22.Kind,.i x22.Int,.s x22.Text]),(23,.agg [.i x24.Kind,.i x24.Int,.s x24.Text]),(24,.b (!beqS71 x22 x24))]) []) (.nil ?_)
   replace h := isome h;rcases h with ⟨c25,h⟩ | ⟨c25,h⟩
   ·have c25_ : (!beqS71 x22 x24) = true := c25
    refine .condT rfl c25_ ?_
    refine .seqR ?_
    refine .rr 1 ?_
    refine .tt [(4,.b false)] [] (.nil (.ret ?_))
    cases h
    refine blockQ.ret ?_
    refine thenQ_ps ?_
    refine PostI.os ?_
    rintro rfl
    refine blockQ.ret ?_
    refine PostJ.out (by simp) ?_
    rintro rfl
    refine thenQ_ps ?_
    exact FinC.rs
   have c25_ : (!beqS71 x22 x24) = false := Bool.eq_false_iff.2 c25
   refine .condF rfl c25_ ?_
   refine .skip (blockQ.normal (thenQ_normal (.region ?_)))
   replace h := csome h;obtain ⟨v26,hv26,h⟩ := h
   refine .rk 2 fun K k => ?_;simp [hv26];refine k ?_
   refine .tt (L13 a0 a1 a0.length v26) [] (.nil ?_)
   cases h
   refine PostI.next ?_
   exact Sub.tt
  have c21_ : decide (v7 < (a0.length : Int)) = false := decide_eq_false c21
  refine .condF rfl c21_ ?_
  refine .exit ?_
  cases h
  refine thenQ_ps ?_
  refine PostI.os ?_
  rintro rfl
  refine blockQ.hit (PostJ.next ?_)
  exact Sub.tt
 rintro ⟨⟩ h
 refine thenQ_normal (.seqR ?_)
 refine .rr 1 ?_
 refine .tt [(4,.b true)] [] (.nil (.ret ?_))
 cases h
 exact FinC.rs
def d25 (N : Nat) (a0 : S68) (a1 : S76) : Option Int :=
 bindO (β := Unit) (ρ := Int) (
  iterN (σ := Int) (ρ := (Out Unit Int)) (fun (v14 : Int) =>
   if v14 < (a0.records.length : Int) then (
    (idx a0.records v14).bind fun x45 =>
    Option.bind (α := Bool) (
     (idx a0.refs v14).bind fun x52 =>
     if x52 > 0 then (
      if decide (x45.Key = a1.Key) = true then (
       (d30 N x45.Row a1.Row).bind fun r55 =>
       some r55
      ) else
      some false
     ) else
     some false
    ) fun (v51 : Bool) =>
    if v51 = true then (
     some (.inr (.ret v14))
    ) else
    (chkI (v14 + 1)).bind fun v57 =>
    some (.inl v57)
   ) else
   some (.inr (.go ()))
  ) N 0
 ) fun (_ : Unit) =>
 some (-1)
theorem p25 (N : Nat) (a0 : S68) (a1 : S76) (r : Int) (h : d25 N a0 a1 = some r) : FunC Try.prog 25 [.d (.pim [.sl (a0.records.map cS76),.sl (a0.refs.map (cI .i64)),.sl (a0.backups.map cS64),.sl (a0.changes.map cS73),.lit (.int .i64 a0.earliest)]),.agg [.s a1.Key,.s71 a1.Row]] (.i r) := by
 unfold d25 at h
 refine FunC.enter 41 [(0,.d (.pim [.sl (a0.records.map cS76),.sl (a0.refs.map (cI .i64)),.sl (a0.backups.map cS64),.sl (a0.changes.map cS73),.lit (.int .i64 a0.earliest)])),(1,.agg [.s a1.Key,.s71 a1.Row])] (by simp) Try.func25 rfl (of_decide_eq_true rfl) rfl rfl ?_
 refine .seqR ?_
 refine .rr 2 ?_
 refine .tt [(0,.d (.pim [.sl (a0.records.map cS76),.sl (a0.refs.map (cI .i64)),.sl (a0.backups.map cS64),.sl (a0.changes.map cS73),.lit (.int .i64 a0.earliest)])),(3,.ptr 3 0 0)] [(3,some (.box [.s a1.Key,.s71 a1.Row]))] (.nil (.seq (.seqR ?_)))
 refine .rr 6 ?_
 refine .tt [(0,.d (.pim [.sl (a0.records.map cS76),.sl (a0.refs.map (cI .i64)),.sl (a0.backups.map cS64),.sl (a0.changes.map cS73),.lit (.int .i64 a0.earliest)])),(3,.ptr 3 0 0),(10,.s76 a0.records),(11,.i (a0.records.length : Int)),(12,.i 0)] [(3,some (.box [.s a1.Key,.s71 a1.Row]))] (.nil ?_)
 refine .lastJ (fun (_ : Unit) => mk 41 [] [] []) h ?_ ?_ <;> clear h
 ·intro o h
  refine .block ?_
  refine .iter (fun (v14 : Int) => mk 41 [] (L14 a0.records a0.refs a0.backups a0.changes a0.earliest a0.records.length v14) [(3,some (.box [.s a1.Key,.s71 a1.Row]))]) h Sub.tt ?_
  clear h
  rintro v14 x h
  refine .seqR ?_
  refine .rr 1 ?_
  refine .tt (L14 a0.records a0.refs a0.backups a0.changes a0.earliest a0.records.length v14 ++ [(13,.b (decide (v14 < (a0.records.length : Int))))]) [(3,some (.box [.s a1.Key,.s71 a1.Row]))] (.nil (.seq ?_))
  replace h := isome h;rcases h with ⟨c44,h⟩ | ⟨c44,h⟩
  ·have c44_ : decide (v14 < (a0.records.length : Int)) = true := decide_eq_true c44
   refine .condT rfl c44_ ?_
   refine .skip (thenQ_normal (.seq (.block (.seqR ?_))))
   replace h := xsome h;obtain ⟨x45,k46,hx45k,hx45,hx45a,hx45b,h⟩ := h
   refine .rk 6 fun K k => ?_;simp [hx45,hx45k,hx45a];refine k ?_
   refine .tt (L15 a0.records a0.refs a0.backups a0.changes a0.earliest v14 a0.records.length) [(3,some (.box [.s a1.Key,.s71 a1.Row])),(6,some (.box [.s x45.Key,.s71 x45.Row]))] (.nil ?_)
   replace h := bsome h;obtain ⟨v51,hj,h⟩ := h
   refine .cutR (mk 41 [] (L16 a0.records a0.refs a0.backups a0.changes a0.earliest v14 a0.records.length ++ [(38,.b v51)]) [(3,some (.box [.s a1.Key,.s71 a1.Row]))]) ?_ ?_
   ·clear h;have h := hj;clear hj
    replace h := bsome h;obtain ⟨x52,hx52,h⟩ := h
    obtain ⟨hx52,hx52a,hx52b⟩ := idx_some2 hx52 hx45k
    refine .rk 9 fun K k => ?_;simp [hx52,hx45k,hx52a];refine k ?_
    refine .tt (L15 a0.records a0.refs a0.backups a0.changes a0.earliest v14 a0.records.length ++ [(25,.b (decide (x52 > 0)))]) [(3,some (.box [.s a1.Key,.s71 a1.Row])),(6,some (.box [.s x45.Key,.s71 x45.Row]))] ?_
    replace h := isome h;rcases h with ⟨c53,h⟩ | ⟨c53,h⟩
    ·have c53_ : decide (x52 > 0) = true := decide_eq_true c53
     refine .sub (.bool 25 rfl c53_) ?_
     refine .st (mk 41 [] (L15 a0.records a0.refs a0.backups a0.changes a0.earliest v14 a0.records.length ++ [(25,.b true)]) [(3,some (.box [.s a1.Key,.s71 a1.Row])),(6,some (.box [.s x45.Key,.s71 x45.Row]))]) ?_
     refine .rr 7 ?_
     refine .tt (L17 a0.records a0.refs a0.backups a0.changes a0.earliest v14 a0.records.length x45.Key a1.Key ++ [(30,.b (decide (x45.Key = a1.Key))),(32,.b (decide (x45.Key = a1.Key)))]) [(3,some (.box [.s a1.Key,.s71 a1.Row])),(6,some (.box [.s x45.Key,.s71 x45.Row]))] ?_
     replace h := isome h;rcases h with ⟨c54,h⟩ | ⟨c54,h⟩
     ·have c54_ : decide (x45.Key = a1.Key) = true := c54
      refine .sub (.bool 30 rfl c54_) ?_
      refine .sub (.bool 32 rfl c54_) ?_
      refine .st (mk 41 [] (L17 a0.records a0.refs a0.backups a0.changes a0.earliest v14 a0.records.length x45.Key a1.Key ++ [(30,.b true),(32,.b true)]) [(3,some (.box [.s a1.Key,.s71 a1.Row])),(6,some (.box [.s x45.Key,.s71 x45.Row]))]) ?_
      refine .rr 4 ?_
      refine .tt (L18 a0.records a0.refs a0.backups a0.changes a0.earliest v14 a0.records.length x45.Key a1.Key ++ [(32,.b true),(33,.ptr 6 0 1),(34,.s71 x45.Row),(35,.ptr 3 0 1),(36,.s71 a1.Row)]) [(3,some (.box [.s a1.Key,.s71 a1.Row])),(6,some (.box [.s x45.Key,.s71 x45.Row]))] ?_
      replace h := bsome h;obtain ⟨r55,hr55,h⟩ := h
      refine .callL (d := 37) (p30 N x45.Row a1.Row r55 hr55) (by simp) rfl rfl (by simp <;> rfl) (by simp <;> rfl) ent30 (by simp <;> rfl) ?_
      refine .st (mk 41 [] (L18 a0.records a0.refs a0.backups a0.changes a0.earliest v14 a0.records.length x45.Key a1.Key ++ [(32,.b true),(33,.ptr 6 0 1),(34,.s71 x45.Row),(35,.ptr 3 0 1),(36,.s71 a1.Row),(37,.b r55)]) [(3,some (.box [.s a1.Key,.s71 a1.Row])),(6,some (.box [.s x45.Key,.s71 x45.Row]))]) ?_
      refine .rr 1 ?_
      refine .tt (L18 a0.records a0.refs a0.backups a0.changes a0.earliest v14 a0.records.length x45.Key a1.Key ++ [(33,.ptr 6 0 1),(34,.s71 x45.Row),(35,.ptr 3 0 1),(36,.s71 a1.Row),(37,.b r55),(38,.b r55)]) [(3,some (.box [.s a1.Key,.s71 a1.Row])),(6,some (.box [.s x45.Key,.s71 x45.Row]))] ?_
      cases h
      exact .nil .tt
     have c54_ : decide (x45.Key = a1.Key) = false := Bool.eq_false_iff.2 c54
     refine .sub (.bool 30 rfl c54_) ?_
     refine .sub (.bool 32 rfl c54_) ?_
     refine .st (mk 41 [] (L17 a0.records a0.refs a0.backups a0.changes a0.earliest v14 a0.records.length x45.Key a1.Key ++ [(30,.b false),(32,.b false)]) [(3,some (.box [.s a1.Key,.s71 a1.Row])),(6,some (.box [.s x45.Key,.s71 x45.Row]))]) ?_
     refine .rr 6 ?_
     refine .tt (L16 a0.records a0.refs a0.backups a0.changes a0.earliest v14 a0.records.length ++ [(26,.ptr 6 0 0),(27,.s x45.Key),(28,.ptr 3 0 0),(29,.s a1.Key),(30,.b false),(33,.tup []),(34,.tup []),(35,.tup []),(36,.tup []),(37,.tup []),(38,.b false)]) [(3,some (.box [.s a1.Key,.s71 a1.Row])),(6,some (.box [.s x45.Key,.s71 x45.Row]))] ?_
     cases h
     exact .nil .tt
    have c53_ : decide (x52 > 0) = false := decide_eq_false c53
    refine .sub (.bool 25 rfl c53_) ?_
    refine .st (mk 41 [] (L15 a0.records a0.refs a0.backups a0.changes a0.earliest v14 a0.records.length ++ [(25,.b false)]) [(3,some (.box [.s a1.Key,.s71 a1.Row])),(6,some (.box [.s x45.Key,.s71 x45.Row]))]) ?_
    refine .rr 13 ?_
    refine .tt (L16 a0.records a0.refs a0.backups a0.changes a0.earliest v14 a0.records.length ++ [(26,.tup []),(27,.tup []),(28,.tup []),(29,.tup []),(30,.tup []),(33,.tup []),(34,.tup []),(35,.tup []),(36,.tup []),(37,.tup []),(38,.b false)]) [(3,some (.box [.s a1.Key,.s71 a1.Row]))] ?_
    cases h
    exact .nil .tt
   clear hj
   replace h := isome h;rcases h with ⟨c56,h⟩ | ⟨c56,h⟩
   ·have c56_ : v51 = true := c56
    refine .condT rfl c56_ ?_
    refine .seqR ?_
    refine .rr 2 ?_
    refine .tt [(4,.i v14)] [] (.nil (.ret ?_))
    cases h
    refine blockQ.ret ?_
    refine thenQ_ps ?_
    refine PostI.os ?_
    rintro rfl
    refine blockQ.ret ?_
    refine PostJ.out (by simp) ?_
    rintro rfl
    refine thenQ_ps ?_
    exact FinC.rs
   have c56_ : v51 = false := Bool.eq_false_iff.2 c56
   refine .condF rfl c56_ ?_
   refine .skip (blockQ.normal (thenQ_normal (.region ?_)))
   replace h := csome h;obtain ⟨v57,hv57,h⟩ := h
   refine .rk 2 fun K k => ?_;simp [hv57];refine k ?_
   refine .tt (L14 a0.records a0.refs a0.backups a0.changes a0.earliest a0.records.length v57) [(3,some (.box [.s a1.Key,.s71 a1.Row]))] (.nil ?_)
   cases h
   refine PostI.next ?_
   exact Sub.tt
  have c44_ : decide (v14 < (a0.records.length : Int)) = false := decide_eq_false c44
  refine .condF rfl c44_ ?_
  refine .exit ?_
  cases h
  refine thenQ_ps ?_
  refine PostI.os ?_
  rintro rfl
  refine blockQ.hit (PostJ.next ?_)
  exact Sub.tt
 rintro ⟨⟩ h
 refine thenQ_normal (.seqR ?_)
 refine .rr 1 ?_
 refine .tt [(4,.i (-1))] [] (.nil (.ret ?_))
 cases h
 exact FinC.rs
def d26 (N : Nat) (a0 : (List Int)) (a1 : Int) : Option Int :=
 bindO (β := Unit) (ρ := Int) (
  iterN (σ := Int) (ρ := (Out Unit Int)) (fun (v5 : Int) =>
   if v5 < (a0.length : Int) then (
    (idx a0 v5).bind fun x18 =>
    if (a1 == x18) then (
     some (.inr (.ret v5))
    ) else
    (chkI (v5 + 1)).bind fun v21 =>
    some (.inl v21)
   ) else
   some (.inr (.go ()))
  ) N 0
 ) fun (_ : Unit) =>
 some (-1)
theorem p26 (N : Nat) (a0 : (List Int)) (a1 : Int) (r : Int) (h : d26 N a0 a1 = some r) : FunC Try.prog 26 [.si a0,.i a1] (.i r) := by
 unfold d26 at h
 refine FunC.enter 19 [(0,.si a0),(1,.i a1)] (by simp) Try.func26 rfl (of_decide_eq_true rfl) rfl rfl ?_
 refine .seqR ?_
 refine .rr 1 ?_
 refine .tt [(0,.si a0),(1,.i a1)] [] (.nil (.seq (.seqR ?_)))
 refine .rr 3 ?_
 refine .tt [(0,.si a0),(1,.i a1),(7,.i (a0.length : Int)),(8,.i 0)] [] (.nil ?_)
 refine .lastJ (fun (_ : Unit) => mk 19 [] [] []) h ?_ ?_ <;> clear h
 ·intro o h
  refine .block ?_
  refine .iter (fun (v5 : Int) => mk 19 [] [(0,.si a0),(1,.i a1),(7,.i (a0.length : Int)),(8,.i v5)] []) h Sub.tt ?_
  clear h
  rintro v5 x h
  refine .seqR ?_
  refine .rr 1 ?_
  refine .tt [(0,.si a0),(1,.i a1),(7,.i (a0.length : Int)),(8,.i v5),(9,.b (decide (v5 < (a0.length : Int))))] [] (.nil (.seq ?_))
  replace h := isome h;rcases h with ⟨c17,h⟩ | ⟨c17,h⟩
  ·have c17_ : decide (v5 < (a0.length : Int)) = true := decide_eq_true c17
   refine .condT rfl c17_ ?_
   refine .skip (thenQ_normal (.seq (.block (.seqR ?_))))
   refine .rr 2 ?_
   refine .tt [(0,.si a0),(1,.i a1),(5,.i v5),(7,.i (a0.length : Int)),(8,.i v5)] [] (.nil (.seqR ?_))
   replace h := xsome h;obtain ⟨x18,k19,hx18k,hx18,hx18a,hx18b,h⟩ := h
   refine .rk 6 fun K k => ?_;simp [hx18,hx18k,hx18a];refine k ?_
   refine .tt [(0,.si a0),(1,.i a1),(5,.i v5),(7,.i (a0.length : Int)),(8,.i v5),(16,.b (a1 == x18))] [] (.nil ?_)
   replace h := isome h;rcases h with ⟨c20,h⟩ | ⟨c20,h⟩
   ·have c20_ : (a1 == x18) = true := c20
    refine .condT rfl c20_ ?_
    refine .seqR ?_
    refine .rr 2 ?_
    refine .tt [(4,.i v5)] [] (.nil (.ret ?_))
    cases h
    refine blockQ.ret ?_
    refine thenQ_ps ?_
    refine PostI.os ?_
    rintro rfl
    refine blockQ.ret ?_
    refine PostJ.out (by simp) ?_
    rintro rfl
    refine thenQ_ps ?_
    exact FinC.rs
   have c20_ : (a1 == x18) = false := Bool.eq_false_iff.2 c20
   refine .condF rfl c20_ ?_
   refine .skip (blockQ.normal (thenQ_normal (.region ?_)))
   replace h := csome h;obtain ⟨v21,hv21,h⟩ := h
   refine .rk 2 fun K k => ?_;simp [hv21];refine k ?_
   refine .tt [(0,.si a0),(1,.i a1),(7,.i (a0.length : Int)),(8,.i v21)] [] (.nil ?_)
   cases h
   refine PostI.next ?_
   exact Sub.tt
  have c17_ : decide (v5 < (a0.length : Int)) = false := decide_eq_false c17
  refine .condF rfl c17_ ?_
  refine .exit ?_
  cases h
  refine thenQ_ps ?_
  refine PostI.os ?_
  rintro rfl
  refine blockQ.hit (PostJ.next ?_)
  exact Sub.tt
 rintro ⟨⟩ h
 refine thenQ_normal (.seqR ?_)
 refine .rr 1 ?_
 refine .tt [(4,.i (-1))] [] (.nil (.ret ?_))
 cases h
 exact FinC.rs
end Go.Proofs.Ytfdhaigfonolpaa
