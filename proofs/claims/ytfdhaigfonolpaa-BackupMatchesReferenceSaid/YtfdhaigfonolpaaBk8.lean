/- Functions of the program as functional programs; the code computes them. -/
import Derived.Test.YtfdhaigfonolpaaBk7
namespace Go.Proofs.Ytfdhaigfonolpaa
open Go.Ab Go.Rp
attribute [-simp] List.all_eq_true Array.all_toList Array.all_eq_true
def d32 (N : Nat) (a0 : (List S73)) (p1 : S73 → Option Bool) : Option (List S73) :=
 (d47 N a0 p1).bind fun r1 =>
 if (r1 == (-1)) then (
  some a0
 ) else
 (chkI (r1 + 1)).bind fun v3 =>
 Option.bind (α := ((List S73) × Int)) (
  iterN (σ := ((List S73) × Int × Int)) (ρ := ((List S73) × Int)) (fun ((l15,v16,v17) : ((List S73) × Int × Int)) =>
   if v17 < (l15.length : Int) then (
    (idx l15 v17).bind fun x46 =>
    (p1 x46).bind fun r48 =>
    if (!r48) = true then (
     (idx l15 v16).bind fun _x50 =>
     letv (setI l15 v16 x46) fun l52 =>
     (chkI (v16 + 1)).bind fun v53 =>
     (chkI (v17 + 1)).bind fun v54 =>
     some (.inl (l52,v53,v54))
    ) else
    (chkI (v17 + 1)).bind fun v55 =>
    some (.inl (l15,v16,v55))
   ) else
   some (.inr (l15,v16))
  ) N (a0,r1,v3)
 ) fun ((l43,v44) : ((List S73) × Int)) =>
 (natI v44 l43.length).bind fun n56 =>
 (posN (l43.length - n56)).bind fun _ =>
 letv (l43.take n56 ++ (List.replicate (l43.length - n56) (S73.mk 0 (ByteArray.mk #[]) []) ++ l43.drop (n56 + (l43.length - n56)))) fun l57 =>
 (natI (n56 : Int) l57.length).bind fun n58 =>
 letv (l57.take n58) fun l59 =>
 some l59
set_option maxRecDepth 100000 in
set_option maxHeartbeats 4000000 in
theorem p32 (N : Nat) (a0 : (List S73)) (x0 : List S76) (x1 : List Int) (x2 : List S64) (e : Int) (j0 k0 j1 k1 j2 k2 : Nat) (r : (List S73)) (h : d32 N a0 (fun b0 => d33 N b0 e) = some r) : FunM Try.prog 32 [.ref 1000 0 a0.length,.fn (.func 33) [.ptr 2000 0 0]] [(1000,R73 a0),(2000,some (.box [.ptr 3000 0 0])),(3000,some (.box [.ref 65000 j0 k0,.ref 65001 j1 k1,.ref 65002 j2 k2,.ref 1000 0 a0.length,.i e])),(65000,R76 x0),(65001,R3 x1),(65002,R64 x2)] [1000,2000,3000] (.ref 1000 0 r.length) [(1000,.arr 73 3 (r.map cS73)),(2000,.box [.ptr 3000 0 0]),(3000,.box [.ref 65000 j0 k0,.ref 65001 j1 k1,.ref 65002 j2 k2,.hole,.i e]),(65000,.arr 76 2 (x0.map cS76)),(65001,.arr 3 1 (x1.map (cI .i64))),(65002,.arr 64 2 (x2.map cS64))] := by
 unfold d32 at h
 refine FunM.enter 42 [(0,.ref 1000 0 a0.length),(1,.fn (.func 33) [.ptr 2000 0 0])] Try.func32 rfl (of_decide_eq_true rfl) rfl rfl ?_
 refine .seqR ?_
 refine .rr 1 ?_
 refine .tt (L31 a0.length) [(1000,R73 a0),(2000,some (.box [.ptr 3000 0 0])),(3000,some (.box [.ref 65000 j0 k0,.ref 65001 j1 k1,.ref 65002 j2 k2,.ref 1000 0 a0.length,.i e])),(65000,R76 x0),(65001,R3 x1),(65002,R64 x2)] (.nil (.seqR ?_))
 refine .rr 2 ?_
 refine .tt (L31 a0.length ++ [(8,.ref 1000 0 a0.length),(9,.fn (.func 33) [.ptr 2000 0 0])]) [(1000,R73 a0),(2000,some (.box [.ptr 3000 0 0])),(3000,some (.box [.ref 65000 j0 k0,.ref 65001 j1 k1,.ref 65002 j2 k2,.ref 1000 0 a0.length,.i e])),(65000,R76 x0),(65001,R3 x1),(65002,R64 x2)] ?_
 replace h := bsome h;obtain ⟨r1,hr1,h⟩ := h
 refine .callF (p47x N a0 x0 x1 x2 e j0 k0 j1 k1 j2 k2 r1 hr1) [(1000,1000),(2000,2000),(3000,3000),(65000,65000),(65001,65001),(65002,65002)] [1000,2000,3000] [(1000,1000),(2000,2000),(3000,3000),(65000,65000),(65001,65001),(65002,65002)] [(1000,.arr 73 3 (a0.map cS73)),(2000,.box [.ptr 3000 0 0]),(3000,.box [.ref 65000 j0 k0,.ref 65001 j1 k1,.ref 65002 j2 k2,.ref 1000 0 a0.length,.d (.lit (.int .i64 e))]),(65000,.arr 76 2 (x0.map cS76)),(65001,.arr 3 1 (x1.map (cI .i64))),(65002,.arr 64 2 (x2.map cS64))] (.d (.lit (.int .i64 r1))) (by simp) rfl (by simp <;> rfl) (by simp) (by simp) (by simp) (by simp) (by simp) ent47 (by simp) (by simp) (by simp) (by simp) (by simp) (by simp) ?_
 refine .st (mk 42 [1000,2000,3000] (L31 a0.length ++ [(8,.ref 1000 0 a0.length),(9,.fn (.func 33) [.ptr 2000 0 0]),(10,.i r1)]) [(1000,R73 a0),(2000,some (.box [.ptr 3000 0 0])),(3000,some (.box [.ref 65000 j0 k0,.ref 65001 j1 k1,.ref 65002 j2 k2,.ref 1000 0 a0.length,.i e])),(65000,R76 x0),(65001,R3 x1),(65002,R64 x2)]) ?_
 refine .rr 1 ?_
 refine .tt (L31 a0.length ++ [(5,.i r1)]) [(1000,R73 a0),(2000,some (.box [.ptr 3000 0 0])),(3000,some (.box [.ref 65000 j0 k0,.ref 65001 j1 k1,.ref 65002 j2 k2,.ref 1000 0 a0.length,.i e])),(65000,R76 x0),(65001,R3 x1),(65002,R64 x2)] (.nil (.seq (.seqR ?_)))
 refine .rr 2 ?_
 refine .tt (L31 a0.length ++ [(5,.i r1),(12,.b (r1 == (-1)))]) [(1000,R73 a0),(2000,some (.box [.ptr 3000 0 0])),(3000,some (.box [.ref 65000 j0 k0,.ref 65001 j1 k1,.ref 65002 j2 k2,.ref 1000 0 a0.length,.i e])),(65000,R76 x0),(65001,R3 x1),(65002,R64 x2)] (.nil ?_)
 replace h := isome h;rcases h with ⟨c2,h⟩ | ⟨c2,h⟩
 ·have c2_ : (r1 == (-1)) = true := c2
  refine .condT rfl c2_ ?_
  refine .seqR ?_
  refine .rr 2 ?_
  refine .tt [(4,.ref 1000 0 a0.length)] [(1000,R73 a0),(2000,some (.box [.ptr 3000 0 0])),(3000,some (.box [.ref 65000 j0 k0,.ref 65001 j1 k1,.ref 65002 j2 k2,.ref 1000 0 a0.length,.i e])),(65000,R76 x0),(65001,R3 x1),(65002,R64 x2)] (.nil ?_)
  refine .sub (.holeCell (bid := 3000) (j := 3) rfl rfl) ?_
  refine .st (mk 42 [1000,2000,3000] [(4,.ref 1000 0 a0.length)] [(1000,R73 a0),(2000,some (.box [.ptr 3000 0 0])),(3000,some (.box [.ref 65000 j0 k0,.ref 65001 j1 k1,.ref 65002 j2 k2,.hole,.i e])),(65000,R76 x0),(65001,R3 x1),(65002,R64 x2)]) (.ret ?_)
  cases h
  refine thenQ_ps ?_
  exact FinF.ret (by simp) (by simp)
 have c2_ : (r1 == (-1)) = false := Bool.eq_false_iff.2 c2
 refine .condF rfl c2_ ?_
 refine .skip (thenQ_normal (.seq (.seqR ?_)))
 replace h := csome h;obtain ⟨v3,hv3,h⟩ := h
 refine .rk 3 fun K k => ?_;simp [hv3];refine k ?_
 refine .tt (L34 a0.length r1 v3) [(1000,R73 a0),(2000,some (.box [.ptr 3000 0 0])),(3000,some (.box [.ref 65000 j0 k0,.ref 65001 j1 k1,.ref 65002 j2 k2,.ref 1000 0 a0.length,.i e])),(65000,R76 x0),(65001,R3 x1),(65002,R64 x2)] (.nil ?_)
 refine .lastN (fun ((l43,v44) : ((List S73) × Int)) => mk 42 [1000,2000,3000] [(0,.ref 1000 0 l43.length),(5,.i v44)] [(1000,R73 l43),(2000,some (.box [.ptr 3000 0 0])),(3000,some (.box [.ref 65000 j0 k0,.ref 65001 j1 k1,.ref 65002 j2 k2,.ref 1000 0 l43.length,.i e])),(65000,R76 x0),(65001,R3 x1),(65002,R64 x2)]) h ?_ ?_ <;> clear h
 ·intro o h
  refine .block ?_
  refine .iter (fun ((l15,v16,v17) : ((List S73) × Int × Int)) => mk 42 [1000,2000,3000] (L34 l15.length v16 v17) [(1000,R73 l15),(2000,some (.box [.ptr 3000 0 0])),(3000,some (.box [.ref 65000 j0 k0,.ref 65001 j1 k1,.ref 65002 j2 k2,.ref 1000 0 l15.length,.i e])),(65000,R76 x0),(65001,R3 x1),(65002,R64 x2)]) h Sub.tt ?_
  clear h
  rintro ⟨l15,v16,v17⟩ x h
  dsimp only at h ⊢
  refine .seq (.seqR ?_)
  refine .rr 4 ?_
  refine .tt (L34 l15.length v16 v17 ++ [(19,.b (decide (v17 < (l15.length : Int))))]) [(1000,R73 l15),(2000,some (.box [.ptr 3000 0 0])),(3000,some (.box [.ref 65000 j0 k0,.ref 65001 j1 k1,.ref 65002 j2 k2,.ref 1000 0 l15.length,.i e])),(65000,R76 x0),(65001,R3 x1),(65002,R64 x2)] (.nil ?_)
  replace h := isome h;rcases h with ⟨c45,h⟩ | ⟨c45,h⟩
  ·have c45_ : decide (v17 < (l15.length : Int)) = true := decide_eq_true c45
   refine .condT rfl c45_ ?_
   refine .skip (thenQ_normal (.seq (.block (.seqR ?_))))
   replace h := xsome h;obtain ⟨x46,k47,hx46k,hx46,hx46a,hx46b,h⟩ := h
   refine .rk 6 fun K k => ?_;simp [hx46,hx46k,hx46a,hx46b];refine k ?_
   refine .tt (L35 l15.length v16 v17) [(7,some (.box [.i x46.time,.s x46.key,.s71 x46.row])),(1000,R73 l15),(2000,some (.box [.ptr 3000 0 0])),(3000,some (.box [.ref 65000 j0 k0,.ref 65001 j1 k1,.ref 65002 j2 k2,.ref 1000 0 l15.length,.i e])),(65000,R76 x0),(65001,R3 x1),(65002,R64 x2)] (.nil (.seqR ?_))
   refine .rr 2 ?_
   refine .tt (L35 l15.length v16 v17 ++ [(26,.fn (.func 33) [.ptr 2000 0 0]),(27,.agg [.i x46.time,.s x46.key,.s71 x46.row])]) [(7,some (.box [.i x46.time,.s x46.key,.s71 x46.row])),(1000,R73 l15),(2000,some (.box [.ptr 3000 0 0])),(3000,some (.box [.ref 65000 j0 k0,.ref 65001 j1 k1,.ref 65002 j2 k2,.ref 1000 0 l15.length,.i e])),(65000,R76 x0),(65001,R3 x1),(65002,R64 x2)] ?_
   replace h := bsome h;obtain ⟨r48,hr48,h⟩ := h
   refine .callF (p33 N x46 x0 x1 x2 e j0 k0 j1 k1 j2 k2 l15 r48 hr48) [(1000,1000),(2000,2000),(3000,3000),(65000,65000),(65001,65001),(65002,65002)] [1000,2000,3000] [(1000,1000),(2000,2000),(3000,3000),(65000,65000),(65001,65001),(65002,65002)] [(1000,.arr 73 3 (l15.map cS73)),(2000,.box [.ptr 3000 0 0]),(3000,.box [.ref 65000 j0 k0,.ref 65001 j1 k1,.ref 65002 j2 k2,.ref 1000 0 l15.length,.d (.lit (.int .i64 e))]),(65000,.arr 76 2 (x0.map cS76)),(65001,.arr 3 1 (x1.map (cI .i64))),(65002,.arr 64 2 (x2.map cS64))] (.d (.lit (.bool r48))) (by simp) rfl (by simp <;> rfl) (by simp) (by simp) (by simp) (by simp) (by simp) ent33 (by simp) (by simp) (by simp) (by simp) (by simp) (by simp) ?_
   refine .st (mk 42 [1000,2000,3000] (L35 l15.length v16 v17 ++ [(26,.fn (.func 33) [.ptr 2000 0 0]),(27,.agg [.i x46.time,.s x46.key,.s71 x46.row]),(28,.b r48)]) [(7,some (.box [.i x46.time,.s x46.key,.s71 x46.row])),(1000,R73 l15),(2000,some (.box [.ptr 3000 0 0])),(3000,some (.box [.ref 65000 j0 k0,.ref 65001 j1 k1,.ref 65002 j2 k2,.ref 1000 0 l15.length,.i e])),(65000,R76 x0),(65001,R3 x1),(65002,R64 x2)]) ?_
   refine .rr 1 ?_
   refine .tt (L35 l15.length v16 v17 ++ [(29,.b (!r48))]) [(7,some (.box [.i x46.time,.s x46.key,.s71 x46.row])),(1000,R73 l15),(2000,some (.box [.ptr 3000 0 0])),(3000,some (.box [.ref 65000 j0 k0,.ref 65001 j1 k1,.ref 65002 j2 k2,.ref 1000 0 l15.length,.i e])),(65000,R76 x0),(65001,R3 x1),(65002,R64 x2)] (.nil ?_)
   replace h := isome h;rcases h with ⟨c49,h⟩ | ⟨c49,h⟩
   ·have c49_ : (!r48) = true := c49
    refine .condT rfl c49_ ?_
    refine .seqR ?_
    replace h := xsome h;obtain ⟨x50,k51,hx50k,hx50,hx50a,hx50b,h⟩ := h
    replace h := lsome h;obtain ⟨l52,gl52,h⟩ := h
    obtain ⟨hl52,hl52n⟩ := setI_some cS73 gl52 hx50k
    replace hl52 : (l15.map cS73).set k51 [.lit (.int .i64 x46.time),.lit (.string x46.key),.sl (x46.row.map cS71)] = l52.map cS73 := hl52
    clear gl52
    refine .rk 5 fun K k => ?_;simp [hx50,hx50k,hx50a,hx50b,hl52];refine k ?_
    refine .sub (S' := mk 42 [1000,2000,3000] (L34 l52.length v16 v17) [(1000,R73 l52),(2000,some (.box [.ptr 3000 0 0])),(3000,some (.box [.ref 65000 j0 k0,.ref 65001 j1 k1,.ref 65002 j2 k2,.ref 1000 0 l52.length,.i e])),(65000,R76 x0),(65001,R3 x1),(65002,R64 x2)]) (Sub.table (by simp [hl52n]) (by simp [hl52n])) ?_
    refine .nil (.region ?_)
    replace h := csome h;obtain ⟨v53,hv53,h⟩ := h
    refine .rk 3 fun K k => ?_;simp [hv53];refine k ?_
    refine .tt (L34 l52.length v53 v17) [(1000,R73 l52),(2000,some (.box [.ptr 3000 0 0])),(3000,some (.box [.ref 65000 j0 k0,.ref 65001 j1 k1,.ref 65002 j2 k2,.ref 1000 0 l52.length,.i e])),(65000,R76 x0),(65001,R3 x1),(65002,R64 x2)] (.nil (blockQ.normal (thenQ_normal (.region ?_))))
    replace h := csome h;obtain ⟨v54,hv54,h⟩ := h
    refine .rk 3 fun K k => ?_;simp [hv54];refine k ?_
    refine .tt (L34 l52.length v53 v54) [(1000,R73 l52),(2000,some (.box [.ptr 3000 0 0])),(3000,some (.box [.ref 65000 j0 k0,.ref 65001 j1 k1,.ref 65002 j2 k2,.ref 1000 0 l52.length,.i e])),(65000,R76 x0),(65001,R3 x1),(65002,R64 x2)] (.nil ?_)
    cases h
    refine PostI.next ?_
    exact Sub.tt
   have c49_ : (!r48) = false := Bool.eq_false_iff.2 c49
   refine .condF rfl c49_ ?_
   refine .skip (blockQ.normal (thenQ_normal (.region ?_)))
   replace h := csome h;obtain ⟨v55,hv55,h⟩ := h
   refine .rk 3 fun K k => ?_;simp [hv55];refine k ?_
   refine .tt (L34 l15.length v16 v55) [(1000,R73 l15),(2000,some (.box [.ptr 3000 0 0])),(3000,some (.box [.ref 65000 j0 k0,.ref 65001 j1 k1,.ref 65002 j2 k2,.ref 1000 0 l15.length,.i e])),(65000,R76 x0),(65001,R3 x1),(65002,R64 x2)] (.nil ?_)
   cases h
   refine PostI.next ?_
   exact Sub.tt
  have c45_ : decide (v17 < (l15.length : Int)) = false := decide_eq_false c45
  refine .condF rfl c45_ ?_
  refine .exit ?_
  cases h
  refine thenQ_ps ?_
  refine PostI.os ?_
  rintro rfl
  refine blockQ.hit (PostN.next ?_)
  exact Sub.tt
 rintro ⟨l43,v44⟩ h
 dsimp only at h ⊢
 refine thenQ_normal (.seqR ?_)
 replace h := bsome h;obtain ⟨n56,gn56,h⟩ := h
 obtain ⟨hn56a,hn56⟩ := natI_some gn56
 clear gn56
 subst hn56a
 refine .rk 3 fun K k => ?_;simp [hn56];refine k ?_
 refine .tt [(0,.ref 1000 0 l43.length),(5,.i (n56 : Int)),(38,.ref 1000 n56 (l43.length - n56))] [(1000,R73 l43),(2000,some (.box [.ptr 3000 0 0])),(3000,some (.box [.ref 65000 j0 k0,.ref 65001 j1 k1,.ref 65002 j2 k2,.ref 1000 0 l43.length,.i e])),(65000,R76 x0),(65001,R3 x1),(65002,R64 x2)] ?_
 replace h := bsome h;obtain ⟨ql57,pl57,h⟩ := h
 replace pl57 := posN_some pl57
 replace h := lsome h;obtain ⟨l57,gl57,h⟩ := h
 have hl57 : (((l43.map cS73).take n56 ++ (List.replicate (l43.length - n56) [.lit (.int .i64 0),.lit (.string (ByteArray.mk #[])),.lit (.slice none 0 0)] ++ (l43.map cS73).drop (n56 + (l43.length - n56))) : List (List D)).map fun e => e.map D.wk) = l57.map cS73 := by rw [← gl57];simp [Function.comp_def,D.wk] <;> rfl
 have hl57l : l57.length = l43.length := by rw [← gl57];simp only [List.length_append,List.length_take,List.length_drop,List.length_replicate];omega
 refine Chain.clear (id := 1000) (off := n56) (len := (l43.length - n56)) (es := l43.map cS73) (tt := ⟨_,_,_,_⟩) (te := ⟨_,3,48,_⟩) (by simp) rfl rfl rfl rfl ty66 rfl ty73 rfl rfl (by simp) (by simp) (by simp;omega) pl57 ?_
 refine .sub (.wkRowTo 1000 (es' := l57.map cS73) rfl hl57) ?_
 refine .sub (S' := mk 42 [1000,2000,3000] [(0,.ref 1000 0 l57.length),(5,.i (n56 : Int))] [(1000,R73 l57),(2000,some (.box [.ptr 3000 0 0])),(3000,some (.box [.ref 65000 j0 k0,.ref 65001 j1 k1,.ref 65002 j2 k2,.ref 1000 0 l57.length,.i e])),(65000,R76 x0),(65001,R3 x1),(65002,R64 x2)]) (by simp;exact Sub.table (by simp [hl57l]) (by simp [hl57l])) ?_
 refine .nil (.seqR ?_)
 replace h := bsome h;obtain ⟨n58,gn58,h⟩ := h
 obtain ⟨hn58a,hn58⟩ := natI_some gn58
 clear gn58
 refine .rk 4 fun K k => ?_;simp [hn58,hn58a];refine k ?_
 refine .sub (S' := mk 42 [1000,2000,3000] [(4,.ref 1000 0 n58)] [(1000,R73 l57),(2000,some (.box [.ptr 3000 0 0])),(3000,some (.box [.ref 65000 j0 k0,.ref 65001 j1 k1,.ref 65002 j2 k2,.ref 1000 0 l57.length,.i e])),(65000,R76 x0),(65001,R3 x1),(65002,R64 x2)]) (Sub.table (by simp) (by simp)) ?_
 refine .nil ?_
 replace h := lsome h;obtain ⟨l59,gl59,h⟩ := h
 have hl59k : n58 = l59.length := by rw [← gl59,List.length_take];omega
 subst hl59k
 have hl59 : (l57.map cS73).take l59.length = l59.map cS73 := by rw [← List.map_take,gl59]
 clear gl59
 refine .sub (.holeCell (bid := 3000) (j := 3) rfl rfl) ?_
 refine .st (mk 42 [1000,2000,3000] [(4,.ref 1000 0 l59.length)] [(1000,R73 l57),(2000,some (.box [.ptr 3000 0 0])),(3000,some (.box [.ref 65000 j0 k0,.ref 65001 j1 k1,.ref 65002 j2 k2,.hole,.i e])),(65000,R76 x0),(65001,R3 x1),(65002,R64 x2)]) ?_
 refine .sub (.cut 1000 l59.length rfl) ?_
 refine .sub (S' := mk 42 [1000,2000,3000] [(4,.ref 1000 0 l59.length)] [(1000,R73 l59),(2000,some (.box [.ptr 3000 0 0])),(3000,some (.box [.ref 65000 j0 k0,.ref 65001 j1 k1,.ref 65002 j2 k2,.hole,.i e])),(65000,R76 x0),(65001,R3 x1),(65002,R64 x2)]) (by simp [hl59];exact Sub.table (by simp) (by simp)) ?_
 refine .ret ?_
 cases h
 exact FinF.ret (by simp) (by simp)
end Go.Proofs.Ytfdhaigfonolpaa
