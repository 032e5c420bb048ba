/- Functions of the program as functional programs; the code computes them. -/
import Derived.Test.YtfdhaigfonolpaaBk9
namespace Go.Proofs.Ytfdhaigfonolpaa
set_option maxRecDepth 100000
set_option maxHeartbeats 4000000
open Go.Ab Go.Rp
attribute [-simp] List.all_eq_true Array.all_toList Array.all_eq_true
def d17 (_N : Nat) (a0 : S46) (e : Int) : Option Bool := some (decide (a0.Time ≤ e))
theorem p17 (N : Nat) (a0 : S46) (x0 : List S35) (x1 : List S46) (e : Int) (j0 k0 j1 k1 : Nat) (r : Bool) (h : d17 N a0 e = some r) : FunM Try.prog 17 [.agg [.i a0.Time,.s a0.Key,.s71 a0.Row],.ptr 2000 0 0] [(2000,some (.box [.ptr 3000 0 0])),(3000,some (.box [.ref 65000 j0 k0,.ref 65001 j1 k1,.i e])),(65000,R35 x0),(65001,R46 x1)] [2000,3000] (.b r) [(2000,.box [.ptr 3000 0 0]),(3000,.box [.ref 65000 j0 k0,.ref 65001 j1 k1,.i e]),(65000,.arr 35 2 (x0.map cS35)),(65001,.arr 46 3 (x1.map cS46))] := by
 unfold d17 at h
 refine FunM.enter 11 [(0,.agg [.i a0.Time,.s a0.Key,.s71 a0.Row]),(1,.ptr 2000 0 0)] Try.func17 rfl (of_decide_eq_true rfl) rfl rfl ?_
 refine .seqR ?_
 refine .rr 2 ?_
 refine .nil ?_
 refine .seqQ (by kernel_rfl) (by kernel_rfl) ?_
 refine .rq 8 fun K k => ?_;simp;refine k ?_
 refine .nil (.ret ?_)
 cases h
 exact FinF.ret (by simp) (by simp)
theorem p34x (N : Nat) (a0 : (List S46)) (x0 : List S35) (x1 : List S46) (e : Int) (j0 k0 j1 k1 : Nat) (r : Int) (h : d34 N a0 (fun b0 => d17 N b0 e) = some r) : FunM Try.prog 34 [.ref 1000 0 a0.length,.fn (.func 17) [.ptr 2000 0 0]] [(1000,R46 a0),(2000,some (.box [.ptr 3000 0 0])),(3000,some (.box [.ref 65000 j0 k0,.ref 65001 j1 k1,.i e])),(65000,R35 x0),(65001,R46 x1)] [1000,2000,3000] (.i r) [(1000,.arr 46 3 (a0.map cS46)),(2000,.box [.ptr 3000 0 0]),(3000,.box [.ref 65000 j0 k0,.ref 65001 j1 k1,.i e]),(65000,.arr 35 2 (x0.map cS35)),(65001,.arr 46 3 (x1.map cS46))] := by
 unfold d34 at h
 refine FunM.enter 19 [(0,.ref 1000 0 a0.length),(1,.fn (.func 17) [.ptr 2000 0 0])] Try.func34 rfl (of_decide_eq_true rfl) rfl rfl ?_
 refine .seqR ?_
 refine .rr 1 ?_
 refine .tt (L39 a0.length) [(1000,R46 a0),(2000,some (.box [.ptr 3000 0 0])),(3000,some (.box [.ref 65000 j0 k0,.ref 65001 j1 k1,.i e])),(65000,R35 x0),(65001,R46 x1)] (.nil (.seq (.seqR ?_)))
 refine .rr 3 ?_
 refine .tt (L39 a0.length ++ [(7,.i (a0.length : Int)),(8,.i 0)]) [(1000,R46 a0),(2000,some (.box [.ptr 3000 0 0])),(3000,some (.box [.ref 65000 j0 k0,.ref 65001 j1 k1,.i e])),(65000,R35 x0),(65001,R46 x1)] (.nil ?_)
 refine .lastJ (fun (_ : Unit) => mk 19 [1000,2000,3000] [] [(1000,R46 a0),(2000,some (.box [.ptr 3000 0 0])),(3000,some (.box [.ref 65000 j0 k0,.ref 65001 j1 k1,.i e])),(65000,R35 x0),(65001,R46 x1)]) h ?_ ?_ <;> clear h
 ·intro o h
  refine .block ?_
  refine .iter (fun (v6 : Int) => mk 19 [1000,2000,3000] (L40 a0.length v6) [(1000,R46 a0),(2000,some (.box [.ptr 3000 0 0])),(3000,some (.box [.ref 65000 j0 k0,.ref 65001 j1 k1,.i e])),(65000,R35 x0),(65001,R46 x1)]) h Sub.tt ?_
  clear h
  rintro v6 x h
  refine .seqR ?_
  refine .rr 1 ?_
  refine .tt (L40 a0.length v6 ++ [(9,.b (decide (v6 < (a0.length : Int))))]) [(1000,R46 a0),(2000,some (.box [.ptr 3000 0 0])),(3000,some (.box [.ref 65000 j0 k0,.ref 65001 j1 k1,.i e])),(65000,R35 x0),(65001,R46 x1)] (.nil (.seq ?_))
  replace h := isome h;rcases h with ⟨c20,h⟩ | ⟨c20,h⟩
  ·have c20_ : decide (v6 < (a0.length : Int)) = true := decide_eq_true c20
   refine .condT rfl c20_ ?_
   refine .skip (thenQ_normal (.seq (.block (.seqR ?_))))
   refine .rr 2 ?_
   refine .tt (L41 a0.length v6) [(1000,R46 a0),(2000,some (.box [.ptr 3000 0 0])),(3000,some (.box [.ref 65000 j0 k0,.ref 65001 j1 k1,.i e])),(65000,R35 x0),(65001,R46 x1)] (.nil (.seqR ?_))
   replace h := xsome h;obtain ⟨x21,k22,hx21k,hx21,hx21a,hx21b,h⟩ := h
   refine .rk 5 fun K k => ?_;simp [hx21,hx21k,hx21a,hx21b];refine k ?_
   refine .tt (L41 a0.length v6 ++ [(11,.fn (.func 17) [.ptr 2000 0 0]),(15,.agg [.i x21.Time,.s x21.Key,.s71 x21.Row])]) [(1000,R46 a0),(2000,some (.box [.ptr 3000 0 0])),(3000,some (.box [.ref 65000 j0 k0,.ref 65001 j1 k1,.i e])),(65000,R35 x0),(65001,R46 x1)] ?_
   replace h := bsome h;obtain ⟨r23,hr23,h⟩ := h
   refine .callF (p17 N x21 x0 x1 e j0 k0 j1 k1 r23 hr23) [(2000,2000),(3000,3000),(65000,65000),(65001,65001)] [2000,3000] [(2000,2000),(3000,3000),(65000,65000),(65001,65001)] [(2000,.box [.ptr 3000 0 0]),(3000,.box [.ref 65000 j0 k0,.ref 65001 j1 k1,.d (.lit (.int .i64 e))]),(65000,.arr 35 2 (x0.map cS35)),(65001,.arr 46 3 (x1.map cS46))] (.d (.lit (.bool r23))) (by simp) rfl (by simp <;> rfl) (by simp) (by simp) (by simp) (by simp) (by simp) ent17 (by simp) (by simp) (by simp) (by simp) (by simp) (by simp) ?_
   refine .st (mk 19 [1000,2000,3000] (L41 a0.length v6 ++ [(11,.fn (.func 17) [.ptr 2000 0 0]),(15,.agg [.i x21.Time,.s x21.Key,.s71 x21.Row]),(16,.b r23)]) [(1000,R46 a0),(2000,some (.box [.ptr 3000 0 0])),(3000,some (.box [.ref 65000 j0 k0,.ref 65001 j1 k1,.i e])),(65000,R35 x0),(65001,R46 x1)]) (.nil ?_)
   replace h := isome h;rcases h with ⟨c24,h⟩ | ⟨c24,h⟩
   ·have c24_ : r23 = true := c24
    refine .condT rfl c24_ ?_
    refine .seqR ?_
    refine .rr 2 ?_
    refine .tt [(4,.i v6)] [(1000,R46 a0),(2000,some (.box [.ptr 3000 0 0])),(3000,some (.box [.ref 65000 j0 k0,.ref 65001 j1 k1,.i e])),(65000,R35 x0),(65001,R46 x1)] (.nil (.ret ?_))
    cases h
    refine blockQ.ret ?_
    refine thenQ_ps ?_
    refine PostI.os ?_
    rintro rfl
    refine blockQ.ret ?_
    refine PostJ.out (by simp) ?_
    rintro rfl
    refine thenQ_ps ?_
    exact FinF.ret (by simp) (by simp)
   have c24_ : r23 = false := Bool.eq_false_iff.2 c24
   refine .condF rfl c24_ ?_
   refine .skip (blockQ.normal (thenQ_normal (.region ?_)))
   replace h := csome h;obtain ⟨v25,hv25,h⟩ := h
   refine .rk 2 fun K k => ?_;simp [hv25];refine k ?_
   refine .tt (L40 a0.length v25) [(1000,R46 a0),(2000,some (.box [.ptr 3000 0 0])),(3000,some (.box [.ref 65000 j0 k0,.ref 65001 j1 k1,.i e])),(65000,R35 x0),(65001,R46 x1)] (.nil ?_)
   cases h
   refine PostI.next ?_
   exact Sub.tt
  have c20_ : decide (v6 < (a0.length : Int)) = false := decide_eq_false c20
  refine .condF rfl c20_ ?_
  refine .exit ?_
  cases h
  refine thenQ_ps ?_
  refine PostI.os ?_
  rintro rfl
  refine blockQ.hit (PostJ.next ?_)
  exact Sub.tt
 rintro ⟨⟩ h
 refine thenQ_normal (.seqR ?_)
 refine .rr 1 ?_
 refine .tt [(4,.i (-1))] [(1000,R46 a0),(2000,some (.box [.ptr 3000 0 0])),(3000,some (.box [.ref 65000 j0 k0,.ref 65001 j1 k1,.i e])),(65000,R35 x0),(65001,R46 x1)] (.nil (.ret ?_))
 cases h
 exact FinF.ret (by simp) (by simp)
def d15 (N : Nat) (a0 : (List S46)) (p1 : S46 → Option Bool) : Option (List S46) :=
 (d34 N a0 p1).bind fun r1 =>
 if (r1 == (-1)) then (
  some a0
 ) else
 (chkI (r1 + 1)).bind fun v3 =>
 Option.bind (α := ((List S46) × Int)) (
  iterN (σ := ((List S46) × Int × Int)) (ρ := ((List S46) × Int)) (fun ((l15,v16,v17) : ((List S46) × Int × Int)) =>
   if v17 < (l15.length : Int) then (
    (idx l15 v17).bind fun x46 =>
    (p1 x46).bind fun r48 =>
    if (!r48) = true then (
     (idx l15 v16).bind fun _x50 =>
     letv (setI l15 v16 x46) fun l52 =>
     (chkI (v16 + 1)).bind fun v53 =>
     (chkI (v17 + 1)).bind fun v54 =>
     some (.inl (l52,v53,v54))
    ) else
    (chkI (v17 + 1)).bind fun v55 =>
    some (.inl (l15,v16,v55))
   ) else
   some (.inr (l15,v16))
  ) N (a0,r1,v3)
 ) fun ((l43,v44) : ((List S46) × Int)) =>
 (natI v44 l43.length).bind fun n56 =>
 (posN (l43.length - n56)).bind fun _ =>
 letv (l43.take n56 ++ (List.replicate (l43.length - n56) (S46.mk 0 (ByteArray.mk #[]) []) ++ l43.drop (n56 + (l43.length - n56)))) fun l57 =>
 (natI (n56 : Int) l57.length).bind fun n58 =>
 letv (l57.take n58) fun l59 =>
 some l59
theorem p15 (N : Nat) (a0 : (List S46)) (x0 : List S35) (x1 : List S46) (e : Int) (j0 k0 j1 k1 : Nat) (r : (List S46)) (h : d15 N a0 (fun b0 => d17 N b0 e) = some r) : FunM Try.prog 15 [.ref 1000 0 a0.length,.fn (.func 17) [.ptr 2000 0 0]] [(1000,R46 a0),(2000,some (.box [.ptr 3000 0 0])),(3000,some (.box [.ref 65000 j0 k0,.ref 65001 j1 k1,.i e])),(65000,R35 x0),(65001,R46 x1)] [1000,2000,3000] (.ref 1000 0 r.length) [(1000,.arr 46 3 (r.map cS46)),(2000,.box [.ptr 3000 0 0]),(3000,.box [.ref 65000 j0 k0,.ref 65001 j1 k1,.i e]),(65000,.arr 35 2 (x0.map cS35)),(65001,.arr 46 3 (x1.map cS46))] := by
 unfold d15 at h
 refine FunM.enter 42 [(0,.ref 1000 0 a0.length),(1,.fn (.func 17) [.ptr 2000 0 0])] Try.func15 rfl (of_decide_eq_true rfl) rfl rfl ?_
 refine .seqR ?_
 refine .rr 1 ?_
 refine .tt (L39 a0.length) [(1000,R46 a0),(2000,some (.box [.ptr 3000 0 0])),(3000,some (.box [.ref 65000 j0 k0,.ref 65001 j1 k1,.i e])),(65000,R35 x0),(65001,R46 x1)] (.nil (.seqR ?_))
 refine .rr 2 ?_
 refine .tt (L39 a0.length ++ [(8,.ref 1000 0 a0.length),(9,.fn (.func 17) [.ptr 2000 0 0])]) [(1000,R46 a0),(2000,some (.box [.ptr 3000 0 0])),(3000,some (.box [.ref 65000 j0 k0,.ref 65001 j1 k1,.i e])),(65000,R35 x0),(65001,R46 x1)] ?_
 replace h := bsome h;obtain ⟨r1,hr1,h⟩ := h
 refine .callF (p34x N a0 x0 x1 e j0 k0 j1 k1 r1 hr1) [(1000,1000),(2000,2000),(3000,3000),(65000,65000),(65001,65001)] [1000,2000,3000] [(1000,1000),(2000,2000),(3000,3000),(65000,65000),(65001,65001)] [(1000,.arr 46 3 (a0.map cS46)),(2000,.box [.ptr 3000 0 0]),(3000,.box [.ref 65000 j0 k0,.ref 65001 j1 k1,.d (.lit (.int .i64 e))]),(65000,.arr 35 2 (x0.map cS35)),(65001,.arr 46 3 (x1.map cS46))] (.d (.lit (.int .i64 r1))) (by simp) rfl (by simp <;> rfl) (by simp) (by simp) (by simp) (by simp) (by simp) ent34 (by simp) (by simp) (by simp) (by simp) (by simp) (by simp) ?_
 refine .st (mk 42 [1000,2000,3000] (L39 a0.length ++ [(8,.ref 1000 0 a0.length),(9,.fn (.func 17) [.ptr 2000 0 0]),(10,.i r1)]) [(1000,R46 a0),(2000,some (.box [.ptr 3000 0 0])),(3000,some (.box [.ref 65000 j0 k0,.ref 65001 j1 k1,.i e])),(65000,R35 x0),(65001,R46 x1)]) ?_
 refine .rr 1 ?_
 refine .tt (L39 a0.length ++ [(5,.i r1)]) [(1000,R46 a0),(2000,some (.box [.ptr 3000 0 0])),(3000,some (.box [.ref 65000 j0 k0,.ref 65001 j1 k1,.i e])),(65000,R35 x0),(65001,R46 x1)] (.nil (.seq (.seqR ?_)))
 refine .rr 2 ?_
 refine .tt (L39 a0.length ++ [(5,.i r1),(12,.b (r1 == (-1)))]) [(1000,R46 a0),(2000,some (.box [.ptr 3000 0 0])),(3000,some (.box [.ref 65000 j0 k0,.ref 65001 j1 k1,.i e])),(65000,R35 x0),(65001,R46 x1)] (.nil ?_)
 replace h := isome h;rcases h with ⟨c2,h⟩ | ⟨c2,h⟩
 ·have c2_ : (r1 == (-1)) = true := c2
  refine .condT rfl c2_ ?_
  refine .seqR ?_
  refine .rr 2 ?_
  refine .tt [(4,.ref 1000 0 a0.length)] [(1000,R46 a0),(2000,some (.box [.ptr 3000 0 0])),(3000,some (.box [.ref 65000 j0 k0,.ref 65001 j1 k1,.i e])),(65000,R35 x0),(65001,R46 x1)] (.nil (.ret ?_))
  cases h
  refine thenQ_ps ?_
  exact FinF.ret (by simp) (by simp)
 have c2_ : (r1 == (-1)) = false := Bool.eq_false_iff.2 c2
 refine .condF rfl c2_ ?_
 refine .skip (thenQ_normal (.seq (.seqR ?_)))
 replace h := csome h;obtain ⟨v3,hv3,h⟩ := h
 refine .rk 3 fun K k => ?_;simp [hv3];refine k ?_
 refine .tt (L42 a0.length r1 v3) [(1000,R46 a0),(2000,some (.box [.ptr 3000 0 0])),(3000,some (.box [.ref 65000 j0 k0,.ref 65001 j1 k1,.i e])),(65000,R35 x0),(65001,R46 x1)] (.nil ?_)
 refine .lastN (fun ((l43,v44) : ((List S46) × Int)) => mk 42 [1000,2000,3000] [(0,.ref 1000 0 l43.length),(5,.i v44)] [(1000,R46 l43),(2000,some (.box [.ptr 3000 0 0])),(3000,some (.box [.ref 65000 j0 k0,.ref 65001 j1 k1,.i e])),(65000,R35 x0),(65001,R46 x1)]) h ?_ ?_ <;> clear h
 ·intro o h
  refine .block ?_
  refine .iter (fun ((l15,v16,v17) : ((List S46) × Int × Int)) => mk 42 [1000,2000,3000] (L42 l15.length v16 v17) [(1000,R46 l15),(2000,some (.box [.ptr 3000 0 0])),(3000,some (.box [.ref 65000 j0 k0,.ref 65001 j1 k1,.i e])),(65000,R35 x0),(65001,R46 x1)]) h Sub.tt ?_
  clear h
  rintro ⟨l15,v16,v17⟩ x h
  dsimp only at h ⊢
  refine .seq (.seqR ?_)
  refine .rr 4 ?_
  refine .tt (L42 l15.length v16 v17 ++ [(19,.b (decide (v17 < (l15.length : Int))))]) [(1000,R46 l15),(2000,some (.box [.ptr 3000 0 0])),(3000,some (.box [.ref 65000 j0 k0,.ref 65001 j1 k1,.i e])),(65000,R35 x0),(65001,R46 x1)] (.nil ?_)
  replace h := isome h;rcases h with ⟨c45,h⟩ | ⟨c45,h⟩
  ·have c45_ : decide (v17 < (l15.length : Int)) = true := decide_eq_true c45
   refine .condT rfl c45_ ?_
   refine .skip (thenQ_normal (.seq (.block (.seqR ?_))))
   replace h := xsome h;obtain ⟨x46,k47,hx46k,hx46,hx46a,hx46b,h⟩ := h
   refine .rk 6 fun K k => ?_;simp [hx46,hx46k,hx46a,hx46b];refine k ?_
   refine .tt (L43 l15.length v16 v17) [(7,some (.box [.i x46.Time,.s x46.Key,.s71 x46.Row])),(1000,R46 l15),(2000,some (.box [.ptr 3000 0 0])),(3000,some (.box [.ref 65000 j0 k0,.ref 65001 j1 k1,.i e])),(65000,R35 x0),(65001,R46 x1)] (.nil (.seqR ?_))
   refine .rr 2 ?_
   refine .tt (L43 l15.length v16 v17 ++ [(26,.fn (.func 17) [.ptr 2000 0 0]),(27,.agg [.i x46.Time,.s x46.Key,.s71 x46.Row])]) [(7,some (.box [.i x46.Time,.s x46.Key,.s71 x46.Row])),(1000,R46 l15),(2000,some (.box [.ptr 3000 0 0])),(3000,some (.box [.ref 65000 j0 k0,.ref 65001 j1 k1,.i e])),(65000,R35 x0),(65001,R46 x1)] ?_
   replace h := bsome h;obtain ⟨r48,hr48,h⟩ := h
   refine .callF (p17 N x46 x0 x1 e j0 k0 j1 k1 r48 hr48) [(2000,2000),(3000,3000),(65000,65000),(65001,65001)] [2000,3000] [(2000,2000),(3000,3000),(65000,65000),(65001,65001)] [(2000,.box [.ptr 3000 0 0]),(3000,.box [.ref 65000 j0 k0,.ref 65001 j1 k1,.d (.lit (.int .i64 e))]),(65000,.arr 35 2 (x0.map cS35)),(65001,.arr 46 3 (x1.map cS46))] (.d (.lit (.bool r48))) (by simp) rfl (by simp <;> rfl) (by simp) (by simp) (by simp) (by simp) (by simp) ent17 (by simp) (by simp) (by simp) (by simp) (by simp) (by simp) ?_
   refine .st (mk 42 [1000,2000,3000] (L43 l15.length v16 v17 ++ [(26,.fn (.func 17) [.ptr 2000 0 0]),(27,.agg [.i x46.Time,.s x46.Key,.s71 x46.Row]),(28,.b r48)]) [(7,some (.box [.i x46.Time,.s x46.Key,.s71 x46.Row])),(1000,R46 l15),(2000,some (.box [.ptr 3000 0 0])),(3000,some (.box [.ref 65000 j0 k0,.ref 65001 j1 k1,.i e])),(65000,R35 x0),(65001,R46 x1)]) ?_
   refine .rr 1 ?_
   refine .tt (L43 l15.length v16 v17 ++ [(29,.b (!r48))]) [(7,some (.box [.i x46.Time,.s x46.Key,.s71 x46.Row])),(1000,R46 l15),(2000,some (.box [.ptr 3000 0 0])),(3000,some (.box [.ref 65000 j0 k0,.ref 65001 j1 k1,.i e])),(65000,R35 x0),(65001,R46 x1)] (.nil ?_)
   replace h := isome h;rcases h with ⟨c49,h⟩ | ⟨c49,h⟩
   ·have c49_ : (!r48) = true := c49
    refine .condT rfl c49_ ?_
    refine .seqR ?_
    replace h := xsome h;obtain ⟨x50,k51,hx50k,hx50,hx50a,hx50b,h⟩ := h
    replace h := lsome h;obtain ⟨l52,gl52,h⟩ := h
    obtain ⟨hl52,hl52n⟩ := setI_some cS46 gl52 hx50k
    replace hl52 : (l15.map cS46).set k51 [.lit (.int .i64 x46.Time),.lit (.string x46.Key),.sl (x46.Row.map cS71)] = l52.map cS46 := hl52
    clear gl52
    refine .rk 5 fun K k => ?_;simp [hx50,hx50k,hx50a,hx50b,hl52];refine k ?_
    refine .sub (S' := mk 42 [1000,2000,3000] (L42 l52.length v16 v17) [(1000,R46 l52),(2000,some (.box [.ptr 3000 0 0])),(3000,some (.box [.ref 65000 j0 k0,.ref 65001 j1 k1,.i e])),(65000,R35 x0),(65001,R46 x1)]) (Sub.table (by simp [hl52n]) (by simp)) ?_
    refine .nil (.region ?_)
    replace h := csome h;obtain ⟨v53,hv53,h⟩ := h
    refine .rk 3 fun K k => ?_;simp [hv53];refine k ?_
    refine .tt (L42 l52.length v53 v17) [(1000,R46 l52),(2000,some (.box [.ptr 3000 0 0])),(3000,some (.box [.ref 65000 j0 k0,.ref 65001 j1 k1,.i e])),(65000,R35 x0),(65001,R46 x1)] (.nil (blockQ.normal (thenQ_normal (.region ?_))))
    replace h := csome h;obtain ⟨v54,hv54,h⟩ := h
    refine .rk 3 fun K k => ?_;simp [hv54];refine k ?_
    refine .tt (L42 l52.length v53 v54) [(1000,R46 l52),(2000,some (.box [.ptr 3000 0 0])),(3000,some (.box [.ref 65000 j0 k0,.ref 65001 j1 k1,.i e])),(65000,R35 x0),(65001,R46 x1)] (.nil ?_)
    cases h
    refine PostI.next ?_
    exact Sub.tt
   have c49_ : (!r48) = false := Bool.eq_false_iff.2 c49
   refine .condF rfl c49_ ?_
   refine .skip (blockQ.normal (thenQ_normal (.region ?_)))
   replace h := csome h;obtain ⟨v55,hv55,h⟩ := h
   refine .rk 3 fun K k => ?_;simp [hv55];refine k ?_
   refine .tt (L42 l15.length v16 v55) [(1000,R46 l15),(2000,some (.box [.ptr 3000 0 0])),(3000,some (.box [.ref 65000 j0 k0,.ref 65001 j1 k1,.i e])),(65000,R35 x0),(65001,R46 x1)] (.nil ?_)
   cases h
   refine PostI.next ?_
   exact Sub.tt
  have c45_ : decide (v17 < (l15.length : Int)) = false := decide_eq_false c45
  refine .condF rfl c45_ ?_
  refine .exit ?_
  cases h
  refine thenQ_ps ?_
  refine PostI.os ?_
  rintro rfl
  refine blockQ.hit (PostN.next ?_)
  exact Sub.tt
 rintro ⟨l43,v44⟩ h
 dsimp only at h ⊢
 refine thenQ_normal (.seqR ?_)
 replace h := bsome h;obtain ⟨n56,gn56,h⟩ := h
 obtain ⟨hn56a,hn56⟩ := natI_some gn56
 clear gn56
 subst hn56a
 refine .rk 3 fun K k => ?_;simp [hn56];refine k ?_
 refine .tt [(0,.ref 1000 0 l43.length),(5,.i (n56 : Int)),(38,.ref 1000 n56 (l43.length - n56))] [(1000,R46 l43),(2000,some (.box [.ptr 3000 0 0])),(3000,some (.box [.ref 65000 j0 k0,.ref 65001 j1 k1,.i e])),(65000,R35 x0),(65001,R46 x1)] ?_
 replace h := bsome h;obtain ⟨ql57,pl57,h⟩ := h
 replace pl57 := posN_some pl57
 replace h := lsome h;obtain ⟨l57,gl57,h⟩ := h
 have hl57 : (((l43.map cS46).take n56 ++ (List.replicate (l43.length - n56) [.lit (.int .i64 0),.lit (.string (ByteArray.mk #[])),.lit (.slice none 0 0)] ++ (l43.map cS46).drop (n56 + (l43.length - n56))) : List (List D)).map fun e => e.map D.wk) = l57.map cS46 := by rw [← gl57];simp [Function.comp_def,D.wk] <;> rfl
 have hl57l : l57.length = l43.length := by rw [← gl57];simp only [List.length_append,List.length_take,List.length_drop,List.length_replicate];omega
 refine Chain.clear (id := 1000) (off := n56) (len := (l43.length - n56)) (es := l43.map cS46) (tt := ⟨_,_,_,_⟩) (te := ⟨_,3,48,_⟩) (by simp) rfl rfl rfl rfl ty37 rfl ty46 rfl rfl (by simp) (by simp) (by simp;omega) pl57 ?_
 refine .sub (.wkRowTo 1000 (es' := l57.map cS46) rfl hl57) ?_
 refine .sub (S' := mk 42 [1000,2000,3000] [(0,.ref 1000 0 l57.length),(5,.i (n56 : Int))] [(1000,R46 l57),(2000,some (.box [.ptr 3000 0 0])),(3000,some (.box [.ref 65000 j0 k0,.ref 65001 j1 k1,.i e])),(65000,R35 x0),(65001,R46 x1)]) (by simp;exact Sub.table (by simp [hl57l]) (by simp)) ?_
 refine .nil (.seqR ?_)
 replace h := bsome h;obtain ⟨n58,gn58,h⟩ := h
 obtain ⟨hn58a,hn58⟩ := natI_some gn58
 clear gn58
 refine .rk 4 fun K k => ?_;simp [hn58,hn58a];refine k ?_
 refine .sub (S' := mk 42 [1000,2000,3000] [(4,.ref 1000 0 n58)] [(1000,R46 l57),(2000,some (.box [.ptr 3000 0 0])),(3000,some (.box [.ref 65000 j0 k0,.ref 65001 j1 k1,.i e])),(65000,R35 x0),(65001,R46 x1)]) (Sub.table (by simp) (by simp)) ?_
 refine .nil ?_
 replace h := lsome h;obtain ⟨l59,gl59,h⟩ := h
 have hl59k : n58 = l59.length := by rw [← gl59,List.length_take];omega
 subst hl59k
 have hl59 : (l57.map cS46).take l59.length = l59.map cS46 := by rw [← List.map_take,gl59]
 clear gl59
 refine .sub (.cut 1000 l59.length rfl) ?_
 refine .sub (S' := mk 42 [1000,2000,3000] [(4,.ref 1000 0 l59.length)] [(1000,R46 l59),(2000,some (.box [.ptr 3000 0 0])),(3000,some (.box [.ref 65000 j0 k0,.ref 65001 j1 k1,.i e])),(65000,R35 x0),(65001,R46 x1)]) (by simp [hl59];exact Sub.table (by simp) (by simp)) ?_
 refine .ret ?_
 cases h
 exact FinF.ret (by simp) (by simp)
def d43 (_N : Nat) (a0 : List S76) (p1 : S76 → S76 → Option Int) : Option (List S76) := sortO p1 a0
theorem l43 (N : Nat) (a0 : List S76) (p1 : S76 → S76 → Option Int) (r : List S76) (h : d43 N a0 p1 = some r) : r.length = a0.length := sortO_length p1 h
theorem p43 (N : Nat) (a0 : List S76) (g1 : Nat) (cs1 : List D) (p1 : S76 → S76 → Option Int) (ent_1 : Rp.Enters Try.prog g1) (_ : ∀ a0 a1 r,p1 a0 a1 = some r → FunC Try.prog g1 ([.agg ((cS76 a0).map .d),.agg ((cS76 a1).map .d)] ++ cs1.map .d) (.i r)) (w1 : cs1 = [] ∧ CmpW Try.prog g1 cS76 p1) (r : List S76) (h : d43 N a0 p1 = some r) : FunM Try.prog 43 [.ref 1000 0 a0.length,.fg g1 cs1] [(1000,R76 a0)] [1000] (.tup []) [(1000,.arr 76 2 (r.map cS76))] := by
 obtain ⟨rfl,w1⟩ := w1
 exact sortFunc_funM Try.laysSlF06_f43 (fun w => Try.isAgg76 w) (fun w => Try.sizeOf76 w) cS76 (fun _ => rfl) ent_1 p1 w1 a0 r h
def d45 (_N : Nat) (a0 : (List Int)) (a1 : (List Int)) : Option Int :=
 some (Lib.compareBytes (bstr a0).data.toList (bstr a1).data.toList)
theorem p45 (N : Nat) (a0 : (List Int)) (a1 : (List Int)) (r : Int) (h : d45 N a0 a1 = some r) : FunC Try.prog 45 [.d (.sl (a0.map (cI .u8))),.d (.sl (a1.map (cI .u8)))] (.i r) := by
 unfold d45 at h
 refine FunC.enter 8 [(0,.d (.sl (a0.map (cI .u8)))),(1,.d (.sl (a1.map (cI .u8))))] (by simp) Try.func45 rfl (of_decide_eq_true rfl) rfl rfl ?_
 refine .seqR ?_
 refine .rr 1 ?_
 refine .tt [(0,.d (.sl (a0.map (cI .u8)))),(1,.d (.sl (a1.map (cI .u8))))] [] (.nil (.seqR ?_))
 refine .rr 2 ?_
 refine .tt [(5,.d (.sl (a0.map (cI .u8)))),(6,.d (.sl (a1.map (cI .u8))))] [] ?_
 refine .pureP (by simp) (pure_cmpB a0 a1 rfl rfl (run_callFunc_extern Try.func53 (by kernel_rfl) (by kernel_rfl) (by kernel_rfl) (e := Extern.BytealgCompare.compare) (by kernel_rfl)) (by simp) (by simp)) ?_
 refine .st (mk 8 [] [(5,.d (.sl (a0.map (cI .u8)))),(6,.d (.sl (a1.map (cI .u8)))),(7,.i (Lib.compareBytes (bstr a0).data.toList (bstr a1).data.toList))] []) ?_
 refine .rr 1 ?_
 refine .tt [(4,.i (Lib.compareBytes (bstr a0).data.toList (bstr a1).data.toList))] [] (.nil (.ret ?_))
 cases h
 exact FinC.rs
def d44 (N : Nat) (a0 : S76) (a1 : S76) : Option Int :=
 (convB a0.Key).bind fun x1 =>
 (convB a1.Key).bind fun x2 =>
 (d45 N x1 x2).bind fun r3 =>
 some r3
theorem p44 (N : Nat) (a0 : S76) (a1 : S76) (r : Int) (h : d44 N a0 a1 = some r) : FunC Try.prog 44 [.agg [.s a0.Key,.s71 a0.Row],.agg [.s a1.Key,.s71 a1.Row]] (.i r) := by
 unfold d44 at h
 refine FunC.enter 12 [(0,.agg [.s a0.Key,.s71 a0.Row]),(1,.agg [.s a1.Key,.s71 a1.Row])] (by simp) Try.func44 rfl (of_decide_eq_true rfl) rfl rfl ?_
 refine .seqR ?_
 refine .rr 3 ?_
 refine .tt [(2,.ptr 2 0 0),(3,.ptr 3 0 0)] [(2,some (.box [.s a0.Key,.s71 a0.Row])),(3,some (.box [.s a1.Key,.s71 a1.Row]))] (.nil (.seqR ?_))
 refine .rr 2 ?_
 refine .tt [(3,.ptr 3 0 0),(6,.s a0.Key)] [(3,some (.box [.s a1.Key,.s71 a1.Row]))] ?_
 replace h := bsome h;obtain ⟨x1,hx1,h⟩ := h
 refine .convB (by simp) rfl ty9 rfl ty96 rfl ty5 rfl rfl hx1 ?_
 refine .st (mk 12 [] [(3,.ptr 3 0 0),(6,.s a0.Key),(7,.d (.sl (x1.map (cI .u8))))] [(3,some (.box [.s a1.Key,.s71 a1.Row]))]) ?_
 refine .rr 2 ?_
 refine .tt [(7,.d (.sl (x1.map (cI .u8)))),(9,.s a1.Key)] [] ?_
 replace h := bsome h;obtain ⟨x2,hx2,h⟩ := h
 refine .convB (by simp) rfl ty9 rfl ty96 rfl ty5 rfl rfl hx2 ?_
 refine .st (mk 12 [] [(7,.d (.sl (x1.map (cI .u8)))),(9,.s a1.Key),(10,.d (.sl (x2.map (cI .u8))))] []) ?_
 replace h := bsome h;obtain ⟨r3,hr3,h⟩ := h
 refine .callL (d := 11) (p45 N x1 x2 r3 hr3) (by simp) rfl rfl (by simp <;> rfl) (by simp <;> rfl) ent45 (by simp <;> rfl) ?_
 refine .st (mk 12 [] [(7,.d (.sl (x1.map (cI .u8)))),(9,.s a1.Key),(10,.d (.sl (x2.map (cI .u8)))),(11,.i r3)] []) ?_
 refine .rr 1 ?_
 refine .tt [(4,.i r3)] [] (.nil (.ret ?_))
 cases h
 exact FinC.rs
set_option maxHeartbeats 1000000 in
open Go.RowKit Go.Sort in
theorem w44 (N : Nat) : CmpW Try.prog 44 cS76 (fun b0 b1 => d44 N b0 b1) := by
 rintro ⟨k,row⟩ ⟨k',row'⟩ r hr W Z vx vy hx hy
 obtain ⟨_,_,rfl,⟨rfl,_⟩,u,_,rfl,hu,rfl⟩ := hx
 obtain ⟨_,_,rfl,⟨rfl,_⟩,u',_,rfl,hu',rfl⟩ := hy
 unfold d44 at hr
 obtain ⟨x1,g1,hr⟩ := bsome hr
 obtain ⟨x2,g2,hr⟩ := bsome hr
 go_enter Try.func44,Try.ntmps44
 go_wp2
 rw [run_bytes_of_string _ 9 96 5 k Try.underlying9 Try.underlying96 Try.underlying5]
 simp only [Result.andThen]
 rw [Oper.upon_value]
 go_wp2
 rw [run_bytes_of_string _ 9 96 5 k' Try.underlying9 Try.underlying96 Try.underlying5]
 simp only [Result.andThen]
 rw [Oper.upon_value]
 go_wp2
 have e := cmp_two (P := Try.prog) ((W.alloc (Obj.cells #[Value.string k,u] 76)).alloc (Obj.cells #[Value.string k',u'] 76)) 5 k k' (convB_some g1).1 (convB_some g2).1 _ _ rfl rfl
 rw [run_callFunc_extern Try.func53 (by kernel_rfl) (by kernel_rfl) (by kernel_rfl) (e := Extern.BytealgCompare.compare) (by kernel_rfl)]
 have n1 : ∀ (w : World) (o : Obj),w.drew.alloc o = (w.alloc o).drew := fun _ _ => rfl
 have n2 : ∀ (w : World),w.drew.heap = w.heap := fun _ => rfl
 simp only [n1,n2,World.size_alloc] at e ⊢
 rw [e]
 simp only [Result.andThen]
 rw [Oper.upon_value]
 go_wp2
 go_ret
 obtain ⟨_,rfl⟩ := convB_some g1
 obtain ⟨_,rfl⟩ := convB_some g2
 unfold d45 at hr
 simp only [Option.bind_some,Option.some.injEq,bstr_u8s] at hr
 subst hr
 have n3 : ∀ (w : World) (os : Array Obj),(grow w os).drew = grow w.drew os := fun _ _ => rfl
 have n4 : ∀ (w : World),w.drewN 2 = w.drew.drew := fun _ => rfl
 exact ⟨rfl,2,_,by rw [n4,alloc_eq_grow,alloc_eq_grow,alloc_eq_grow,alloc_eq_grow,grow_grow,grow_grow,grow_grow,n3,n3]⟩
noncomputable def d20 (N : Nat) (a0 : (List (ByteArray × (List S71)))) : Option (List S76) :=
 anyP a0 fun l7_ =>
 bindO (β := List S76) (ρ := (List S76)) (
  rangeL (α := ByteArray × (List S71)) (β := List S76) (ρ := (List S76)) (fun (x1 : ByteArray × (List S71)) => fun (l3 : List S76) =>
   (appL 40 l3 [(S76.mk x1.1 x1.2)]).bind fun _l6 =>
   some (.go (l3 ++ [(S76.mk x1.1 x1.2)]))
  ) l7_ ([] : List S76)
 ) fun (l3 : List S76) =>
 (d43 N l3 (fun b0 b1 => d44 N b0 b1 )).bind fun r7 =>
 some r7
theorem p20 (N : Nat) (a0 : (List (ByteArray × (List S71)))) (r : (List S76)) (h : d20 N a0 = some r) : FunC Try.prog 20 [.d (.mpi .string false (a0.map (MKey.sk ∘ Prod.fst)) (a0.map ((cL cS71) ∘ Prod.snd)))] (.s76 r) := by
 unfold d20 at h
 refine FunC.enter 22 [(0,.d (.mpi .string false (a0.map (MKey.sk ∘ Prod.fst)) (a0.map ((cL cS71) ∘ Prod.snd))))] (by simp) Try.func20 rfl (of_decide_eq_true rfl) rfl rfl ?_
 refine .seqR ?_
 refine .rr 1 ?_
 refine .tt [(0,.d (.mpi .string false (a0.map (MKey.sk ∘ Prod.fst)) (a0.map ((cL cS71) ∘ Prod.snd))))] [] (.nil (.seqR ?_))
 refine .rr 1 ?_
 refine .tt [(0,.d (.mpi .string false (a0.map (MKey.sk ∘ Prod.fst)) (a0.map ((cL cS71) ∘ Prod.snd)))),(3,.z)] [] (.nil ?_)
 refine .seqA (fun (l3 : List S76) => mk 22 [] [(3,.ref 18 0 l3.length)] [(18,R76 l3)]) h ?_ ?_ <;> clear h
 ·intro h
  refine .mapL _ 1 (mk 22 [] [(3,.z),(6,.d (.mpi .string false (a0.map (MKey.sk ∘ Prod.fst)) (a0.map ((cL cS71) ∘ Prod.snd))))] []) (fun (itr1 : Nat) (b : List S76) => mk 22 [] [(3,.ref 18 0 b.length),(7,.d (.lit (itv itr1)))] [(18,R76 b)]) _ rfl ?_ rfl rfl rfl rfl ty33 rfl rfl rfl rfl rfl rfl rfl rfl rfl rfl (by intro r b;exact ⟨(by show 8 < 22;decide),(by show 9 < 22;decide),by decide,by decide,by decide⟩) (by intro r b;exact ⟨rfl,rfl,rfl⟩) (by intro r;simp;exact (Sub.trans (Sub.nilOwn (t := 3) (id := 18) (T := 76) (n := 2) rfl rfl (by decide)) (by simp;exact Sub.tt))) (by rintro r l3;exact Sub.table (by simp) (by simp)) h ?_
  ·simp only [List.take_succ_cons,List.take_zero]
   refine .rr 1 ?_
   refine .tt [(3,.z),(6,.d (.mpi .string false (a0.map (MKey.sk ∘ Prod.fst)) (a0.map ((cL cS71) ∘ Prod.snd))))] [] ?_
   refine .nil (.refl _)
  clear h
  rintro itr1 x1 l3 o' h
  try dsimp only at h ⊢
  refine .sub (S' := mk 22 [] [(3,.ref 18 0 l3.length),(7,.d (.lit (itv itr1))),(10,.tup [.s x1.1,.s71 x1.2])] [(18,R76 l3)]) (by simp [MKey.enc];exact Sub.table (by simp) (by simp)) ?_
  refine .rr 4 ?_
  refine .tt [(3,.ref 18 0 l3.length),(4,.s x1.1),(5,.s71 x1.2),(7,.d (.lit (itv itr1)))] [(18,R76 l3)] (.nil (.region ?_))
  replace h := bsome h;obtain ⟨l6,hl6,h⟩ := h
  obtain ⟨hl6a,hl6⟩ := appL_some hl6
  subst hl6
  try simp only [List.length_cons,List.length_nil,Nat.zero_add] at hl6a
  refine .runK [17] 7 fun K k => ?_;simp [hl6a];refine k _ _ ?_;clear k K
  refine .tt [(3,.ref 18 0 ((l3 ++ [(S76.mk x1.1 x1.2)]).length)),(7,.d (.lit (itv itr1)))] [(18,R76 (l3 ++ [(S76.mk x1.1 x1.2)]))] (.nil ?_)
  cases h
  refine blockQ.normal ?_
  exact ⟨rfl,Sub.tt⟩
 rintro l3 h
 refine .seqR ?_
 refine .rr 1 ?_
 refine .tt [(3,.ref 18 0 l3.length),(19,.ref 18 0 l3.length)] [(18,R76 l3)] ?_
 replace h := bsome h;obtain ⟨r7,hr7,h⟩ := h
 refine .callF (FunM.argsF (args := [.ref 1000 0 l3.length,.d (.lit (.func (.func 44) #[] #[]))]) (p43 N l3 44 [] (fun b0 b1 => d44 N b0 b1 ) ent44 (fun b0 b1 r h => p44 N b0 b1  r h) ⟨rfl,w44 N⟩ r7 hr7) (by simp [V.wf])) [(18,1000)] [18] [(1000,18)] [(18,.arr 76 2 (r7.map cS76))] (.tup []) (by simp) rfl (by simp <;> rfl) (by simp) (by simp) (by simp) (by simp) (by simp) ent43 (by simp) (by simp) (by simp) (by simp) (by simp) (by simp) ?_
 have hlr7 := l43 N l3 (fun b0 b1 => d44 N b0 b1 ) r7 hr7
 refine .sub (S' := mk 22 [] [(3,.ref 18 0 r7.length),(19,.ref 18 0 r7.length),(20,.tup [])] [(18,R76 r7)]) (by simp [hlr7];exact Sub.table (by simp) (by simp)) ?_
 refine .nil (.seqR ?_)
 refine .rr 2 ?_
 refine .tt [(2,.ref 18 0 r7.length)] [(18,R76 r7)] (.nil ?_)
 refine .sub (.freeze 18 rfl) ?_
 refine .st (mk 22 [] [(2,.s76 r7)] []) (.ret ?_)
 cases h
 exact FinC.rs
def d41 (N : Nat) (a0 : (List S76)) (a1 : (List S76)) (p2 : S76 → S76 → Option Bool) : Option Bool :=
 if ((a0.length : Int) != (a1.length : Int)) then (
  some false
 ) else
 bindO (β := Unit) (ρ := Bool) (
  iterN (σ := Int) (ρ := (Out Unit Bool)) (fun (v8 : Int) =>
   if v8 < (a0.length : Int) then (
    (idx a0 v8).bind fun x25 =>
    (idx a1 v8).bind fun x27 =>
    (p2 x25 x27).bind fun r28 =>
    if (!r28) = true then (
     some (.inr (.ret false))
    ) else
    (chkI (v8 + 1)).bind fun v30 =>
    some (.inl v30)
   ) else
   some (.inr (.go ()))
  ) N 0
 ) fun (_ : Unit) =>
 some true
theorem p41 (N : Nat) (a0 : (List S76)) (a1 : (List S76)) (g2 : Nat) (cs2 : List D) (p2 : S76 → S76 → Option Bool) (ent_2 : Rp.Enters Try.prog g2) (hp2 : ∀ a0 a1 r,p2 a0 a1 = some r → FunC Try.prog g2 ([.agg [.s a0.Key,.s71 a0.Row],.agg [.s a1.Key,.s71 a1.Row]] ++ cs2.map .d) (.b r)) (r : Bool) (h : d41 N a0 a1 p2 = some r) : FunC Try.prog 41 [.s76 a0,.s76 a1,.fg g2 cs2] (.b r) := by
 unfold d41 at h
 refine FunC.enter 32 [(0,.s76 a0),(1,.s76 a1),(2,.fg g2 cs2)] (by simp) Try.func41 rfl (of_decide_eq_true rfl) rfl rfl ?_
 refine .seqR ?_
 refine .rr 1 ?_
 refine .tt [(0,.s76 a0),(1,.s76 a1),(2,.fg g2 cs2)] [] (.nil (.seq (.seqR ?_)))
 refine .rr 5 ?_
 refine .tt [(0,.s76 a0),(1,.s76 a1),(2,.fg g2 cs2),(14,.b ((a0.length : Int) != (a1.length : Int)))] [] (.nil ?_)
 replace h := isome h;rcases h with ⟨c1,h⟩ | ⟨c1,h⟩
 ·have c1_ : ((a0.length : Int) != (a1.length : Int)) = true := c1
  refine .condT rfl c1_ ?_
  refine .seqR ?_
  refine .rr 1 ?_
  refine .tt [(6,.b false)] [] (.nil (.ret ?_))
  cases h
  refine thenQ_ps ?_
  exact FinC.rs
 have c1_ : ((a0.length : Int) != (a1.length : Int)) = false := Bool.eq_false_iff.2 c1
 refine .condF rfl c1_ ?_
 refine .skip (thenQ_normal (.seq (.seqR ?_)))
 refine .rr 3 ?_
 refine .tt [(1,.s76 a1),(2,.fg g2 cs2),(15,.s76 a0),(16,.i (a0.length : Int)),(17,.i 0)] [] (.nil ?_)
 refine .lastJ (fun (_ : Unit) => mk 32 [] [] []) h ?_ ?_ <;> clear h
 ·intro o h
  refine .block ?_
  refine .iter (fun (v8 : Int) => mk 32 [] [(1,.s76 a1),(2,.fg g2 cs2),(15,.s76 a0),(16,.i (a0.length : Int)),(17,.i v8)] []) h Sub.tt ?_
  clear h
  rintro v8 x h
  refine .seqR ?_
  refine .rr 1 ?_
  refine .tt [(1,.s76 a1),(2,.fg g2 cs2),(15,.s76 a0),(16,.i (a0.length : Int)),(17,.i v8),(18,.b (decide (v8 < (a0.length : Int))))] [] (.nil (.seq ?_))
  replace h := isome h;rcases h with ⟨c24,h⟩ | ⟨c24,h⟩
  ·have c24_ : decide (v8 < (a0.length : Int)) = true := decide_eq_true c24
   refine .condT rfl c24_ ?_
   refine .skip (thenQ_normal (.seq (.block (.seqR ?_))))
   replace h := xsome h;obtain ⟨x25,k26,hx25k,hx25,hx25a,hx25b,h⟩ := h
   refine .rk 6 fun K k => ?_;simp [hx25,hx25k,hx25a];refine k ?_
   refine .tt [(1,.s76 a1),(2,.fg g2 cs2),(7,.i v8),(8,.ptr 8 0 0),(15,.s76 a0),(16,.i (a0.length : Int)),(17,.i v8)] [(8,some (.box [.s x25.Key,.s71 x25.Row]))] (.nil (.seqR ?_))
   replace h := bsome h;obtain ⟨x27,hx27,h⟩ := h
   obtain ⟨hx27,hx27a,hx27b⟩ := idx_some2 hx27 hx25k
   refine .rk 6 fun K k => ?_;simp [hx27,hx25k,hx27a];refine k ?_
   refine .tt [(1,.s76 a1),(2,.fg g2 cs2),(8,.ptr 8 0 0),(9,.ptr 9 0 0),(15,.s76 a0),(16,.i (a0.length : Int)),(17,.i v8)] [(8,some (.box [.s x25.Key,.s71 x25.Row])),(9,some (.box [.s x27.Key,.s71 x27.Row]))] (.nil (.seqR ?_))
   refine .rr 3 ?_
   refine .tt [(1,.s76 a1),(2,.fg g2 cs2),(15,.s76 a0),(16,.i (a0.length : Int)),(17,.i v8),(26,.fg g2 cs2),(27,.agg [.s x25.Key,.s71 x25.Row]),(28,.agg [.s x27.Key,.s71 x27.Row])] [] ?_
   replace h := bsome h;obtain ⟨r28,hr28,h⟩ := h
   refine .callL (d := 29) (hp2 x25 x27 r28 hr28) (by simp) rfl rfl (by simp <;> rfl) (by simp <;> rfl) ent_2 (by simp <;> rfl) ?_
   refine .st (mk 32 [] [(1,.s76 a1),(2,.fg g2 cs2),(15,.s76 a0),(16,.i (a0.length : Int)),(17,.i v8),(26,.fg g2 cs2),(27,.agg [.s x25.Key,.s71 x25.Row]),(28,.agg [.s x27.Key,.s71 x27.Row]),(29,.b r28)] []) ?_
   refine .rr 1 ?_
   refine .tt [(1,.s76 a1),(2,.fg g2 cs2),(15,.s76 a0),(16,.i (a0.length : Int)),(17,.i v8),(30,.b (!r28))] [] (.nil ?_)
   replace h := isome h;rcases h with ⟨c29,h⟩ | ⟨c29,h⟩
   ·have c29_ : (!r28) = true := c29
    refine .condT rfl c29_ ?_
    refine .seqR ?_
    refine .rr 1 ?_
    refine .tt [(6,.b false)] [] (.nil (.ret ?_))
    cases h
    refine blockQ.ret ?_
    refine thenQ_ps ?_
    refine PostI.os ?_
    rintro rfl
    refine blockQ.ret ?_
    refine PostJ.out (by simp) ?_
    rintro rfl
    refine thenQ_ps ?_
    exact FinC.rs
   have c29_ : (!r28) = false := Bool.eq_false_iff.2 c29
   refine .condF rfl c29_ ?_
   refine .skip (blockQ.normal (thenQ_normal (.region ?_)))
   replace h := csome h;obtain ⟨v30,hv30,h⟩ := h
   refine .rk 2 fun K k => ?_;simp [hv30];refine k ?_
   refine .tt [(1,.s76 a1),(2,.fg g2 cs2),(15,.s76 a0),(16,.i (a0.length : Int)),(17,.i v30)] [] (.nil ?_)
   cases h
   refine PostI.next ?_
   exact Sub.tt
  have c24_ : decide (v8 < (a0.length : Int)) = false := decide_eq_false c24
  refine .condF rfl c24_ ?_
  refine .exit ?_
  cases h
  refine thenQ_ps ?_
  refine PostI.os ?_
  rintro rfl
  refine blockQ.hit (PostJ.next ?_)
  exact Sub.tt
 rintro ⟨⟩ h
 refine thenQ_normal (.seqR ?_)
 refine .rr 1 ?_
 refine .tt [(6,.b true)] [] (.nil (.ret ?_))
 cases h
 exact FinC.rs
def d42 (N : Nat) (a0 : S76) (a1 : S76) : Option Bool :=
 Option.bind (α := Bool) (
  if decide (a0.Key = a1.Key) = true then (
   (d30 N a0.Row a1.Row).bind fun r5 =>
   some r5
  ) else
  some false
 ) fun (v3 : Bool) =>
 some v3
theorem p42 (N : Nat) (a0 : S76) (a1 : S76) (r : Bool) (h : d42 N a0 a1 = some r) : FunC Try.prog 42 [.agg [.s a0.Key,.s71 a0.Row],.agg [.s a1.Key,.s71 a1.Row]] (.b r) := by
 unfold d42 at h
 refine FunC.enter 17 [(0,.agg [.s a0.Key,.s71 a0.Row]),(1,.agg [.s a1.Key,.s71 a1.Row])] (by simp) Try.func42 rfl (of_decide_eq_true rfl) rfl rfl ?_
 refine .seqR ?_
 refine .rr 3 ?_
 refine .tt [(2,.ptr 2 0 0),(3,.ptr 3 0 0)] [(2,some (.box [.s a0.Key,.s71 a0.Row])),(3,some (.box [.s a1.Key,.s71 a1.Row]))] (.nil ?_)
 replace h := bsome h;obtain ⟨v3,hj,h⟩ := h
 refine .cutR (mk 17 [] [(4,.b v3)] []) ?_ ?_
 ·clear h;have h := hj;clear hj
  refine .rr 6 ?_
  refine .tt [(2,.ptr 2 0 0),(3,.ptr 3 0 0),(10,.b (decide (a0.Key = a1.Key)))] [(2,some (.box [.s a0.Key,.s71 a0.Row])),(3,some (.box [.s a1.Key,.s71 a1.Row]))] ?_
  replace h := isome h;rcases h with ⟨c4,h⟩ | ⟨c4,h⟩
  ·have c4_ : decide (a0.Key = a1.Key) = true := c4
   refine .sub (.bool 10 rfl c4_) ?_
   refine .st (mk 17 [] [(2,.ptr 2 0 0),(3,.ptr 3 0 0),(10,.b true)] [(2,some (.box [.s a0.Key,.s71 a0.Row])),(3,some (.box [.s a1.Key,.s71 a1.Row]))]) ?_
   refine .rr 4 ?_
   refine .tt [(10,.b true),(12,.s71 a0.Row),(14,.s71 a1.Row)] [] ?_
   replace h := bsome h;obtain ⟨r5,hr5,h⟩ := h
   refine .callL (d := 15) (p30 N a0.Row a1.Row r5 hr5) (by simp) rfl rfl (by simp <;> rfl) (by simp <;> rfl) ent30 (by simp <;> rfl) ?_
   refine .st (mk 17 [] [(10,.b true),(12,.s71 a0.Row),(14,.s71 a1.Row),(15,.b r5)] []) ?_
   refine .rr 2 ?_
   refine .tt [(4,.b r5)] [] ?_
   cases h
   exact .nil .tt
  have c4_ : decide (a0.Key = a1.Key) = false := Bool.eq_false_iff.2 c4
  refine .sub (.bool 10 rfl c4_) ?_
  refine .st (mk 17 [] [(2,.ptr 2 0 0),(3,.ptr 3 0 0),(10,.b false)] [(2,some (.box [.s a0.Key,.s71 a0.Row])),(3,some (.box [.s a1.Key,.s71 a1.Row]))]) ?_
  refine .rr 7 ?_
  refine .tt [(4,.b false)] [] ?_
  cases h
  exact .nil .tt
 clear hj
 refine .ret ?_
 cases h
 exact FinC.rs
def d19 (N : Nat) (a0 : (List S76)) (a1 : (List S76)) : Option Bool :=
 (d41 N a0 a1 (fun b0 b1 => d42 N b0 b1 )).bind fun r1 =>
 some r1
theorem p19 (N : Nat) (a0 : (List S76)) (a1 : (List S76)) (r : Bool) (h : d19 N a0 a1 = some r) : FunC Try.prog 19 [.s76 a0,.s76 a1] (.b r) := by
 unfold d19 at h
 refine FunC.enter 8 [(0,.s76 a0),(1,.s76 a1)] (by simp) Try.func19 rfl (of_decide_eq_true rfl) rfl rfl ?_
 refine .seqR ?_
 refine .rr 1 ?_
 refine .tt [(0,.s76 a0),(1,.s76 a1)] [] (.nil (.seqR ?_))
 refine .rr 2 ?_
 refine .tt [(5,.s76 a0),(6,.s76 a1)] [] ?_
 replace h := bsome h;obtain ⟨r1,hr1,h⟩ := h
 refine .callL (d := 7) (FunC.argsF (args := [.s76 a0,.s76 a1,.d (.lit (.func (.func 42) #[] #[]))]) (p41 N a0 a1 42 [] (fun b0 b1 => d42 N b0 b1 ) ent42 (fun b0 b1 r h => p42 N b0 b1  r h) r1 hr1) (by simp [V.wf]) rfl) (by simp) rfl rfl (by simp <;> rfl) (by simp <;> rfl) ent41 (by simp <;> rfl) ?_
 refine .st (mk 8 [] [(5,.s76 a0),(6,.s76 a1),(7,.b r1)] []) ?_
 refine .rr 1 ?_
 refine .tt [(4,.b r1)] [] (.nil (.ret ?_))
 cases h
 exact FinC.rs
end Go.Proofs.Ytfdhaigfonolpaa
