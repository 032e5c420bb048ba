/- Functions of the program as functional programs; the code computes them. -/
import Derived.Test.YtfdhaigfonolpaaBk10
namespace Go.Proofs.Ytfdhaigfonolpaa
set_option maxRecDepth 100000
set_option maxHeartbeats 4000000
open Go.Ab Go.Rp
attribute [-simp] List.all_eq_true Array.all_toList Array.all_eq_true
def d21 (N : Nat) (a0 : S68) : Option (Int × Int × Int) :=
 Option.bind (α := Int) (
  iterN (σ := (Int × Int)) (ρ := Int) (fun ((v7,v8) : (Int × Int)) =>
   if v8 < (a0.refs.length : Int) then (
    (idx a0.refs v8).bind fun x27 =>
    if x27 > 0 then (
     (chkI (v7 + 1)).bind fun v30 =>
     (chkI (v8 + 1)).bind fun v31 =>
     some (.inl (v30,v31))
    ) else
    (chkI (v8 + 1)).bind fun v32 =>
    some (.inl (v7,v32))
   ) else
   some (.inr v7)
  ) N (0,0)
 ) fun (v25 : Int) =>
 some ((a0.backups.length : Int),v25,(a0.changes.length : Int))
theorem p21 (N : Nat) (a0 : S68) (r : (Int × Int × Int)) (h : d21 N a0 = some r) : FunC Try.prog 21 [.d (.pim [.sl (a0.records.map cS76),.sl (a0.refs.map (cI .i64)),.sl (a0.backups.map cS64),.sl (a0.changes.map cS73),.lit (.int .i64 a0.earliest)])] (.tup [.i r.1,.i r.2.1,.i r.2.2]) := by
 unfold d21 at h
 refine FunC.enter 32 [(0,.d (.pim [.sl (a0.records.map cS76),.sl (a0.refs.map (cI .i64)),.sl (a0.backups.map cS64),.sl (a0.changes.map cS73),.lit (.int .i64 a0.earliest)]))] (by simp) Try.func21 rfl (of_decide_eq_true rfl) rfl rfl ?_
 refine .seqR ?_
 refine .rr 3 ?_
 refine .tt [(0,.d (.pim [.sl (a0.records.map cS76),.sl (a0.refs.map (cI .i64)),.sl (a0.backups.map cS64),.sl (a0.changes.map cS73),.lit (.int .i64 a0.earliest)])),(3,.i 0)] [] (.nil (.seq (.seqR ?_)))
 refine .rr 6 ?_
 refine .tt [(0,.d (.pim [.sl (a0.records.map cS76),.sl (a0.refs.map (cI .i64)),.sl (a0.backups.map cS64),.sl (a0.changes.map cS73),.lit (.int .i64 a0.earliest)])),(3,.i 0),(10,.si a0.refs),(11,.i (a0.refs.length : Int)),(12,.i 0)] [] (.nil ?_)
 refine .lastN (fun (v25 : Int) => mk 32 [] (L1 a0.records a0.refs a0.backups a0.changes a0.earliest v25) []) h ?_ ?_ <;> clear h
 ·intro o h
  refine .block ?_
  refine .iter (fun ((v7,v8) : (Int × Int)) => mk 32 [] (L44 a0.records a0.refs a0.backups a0.changes a0.earliest v7 a0.refs.length v8) []) h Sub.tt ?_
  clear h
  rintro ⟨v7,v8⟩ x h
  dsimp only at h ⊢
  refine .seqR ?_
  refine .rr 1 ?_
  refine .tt (L44 a0.records a0.refs a0.backups a0.changes a0.earliest v7 a0.refs.length v8 ++ [(13,.b (decide (v8 < (a0.refs.length : Int))))]) [] (.nil (.seq ?_))
  replace h := isome h;rcases h with ⟨c26,h⟩ | ⟨c26,h⟩
  ·have c26_ : decide (v8 < (a0.refs.length : Int)) = true := decide_eq_true c26
   refine .condT rfl c26_ ?_
   refine .skip (thenQ_normal (.seq (.block (.seqR ?_))))
   replace h := xsome h;obtain ⟨x27,k28,hx27k,hx27,hx27a,hx27b,h⟩ := h
   refine .rk 3 fun K k => ?_;simp [hx27,hx27k,hx27a];refine k ?_
   refine .tt (L1 a0.records a0.refs a0.backups a0.changes a0.earliest v7 ++ [(6,.i x27),(10,.si a0.refs),(11,.i (a0.refs.length : Int)),(12,.i v8)]) [] (.nil (.seqR ?_))
   refine .rr 2 ?_
   refine .tt (L44 a0.records a0.refs a0.backups a0.changes a0.earliest v7 a0.refs.length v8 ++ [(17,.b (decide (x27 > 0)))]) [] (.nil ?_)
   replace h := isome h;rcases h with ⟨c29,h⟩ | ⟨c29,h⟩
   ·have c29_ : decide (x27 > 0) = true := decide_eq_true c29
    refine .condT rfl c29_ ?_
    refine .region ?_
    replace h := csome h;obtain ⟨v30,hv30,h⟩ := h
    refine .rk 3 fun K k => ?_;simp [hv30];refine k ?_
    refine .tt (L44 a0.records a0.refs a0.backups a0.changes a0.earliest v30 a0.refs.length v8) [] (.nil (blockQ.normal (thenQ_normal (.region ?_))))
    replace h := csome h;obtain ⟨v31,hv31,h⟩ := h
    refine .rk 2 fun K k => ?_;simp [hv31];refine k ?_
    refine .tt (L44 a0.records a0.refs a0.backups a0.changes a0.earliest v30 a0.refs.length v31) [] (.nil ?_)
    cases h
    refine PostI.next ?_
    exact Sub.tt
   have c29_ : decide (x27 > 0) = false := decide_eq_false c29
   refine .condF rfl c29_ ?_
   refine .skip (blockQ.normal (thenQ_normal (.region ?_)))
   replace h := csome h;obtain ⟨v32,hv32,h⟩ := h
   refine .rk 2 fun K k => ?_;simp [hv32];refine k ?_
   refine .tt (L44 a0.records a0.refs a0.backups a0.changes a0.earliest v7 a0.refs.length v32) [] (.nil ?_)
   cases h
   refine PostI.next ?_
   exact Sub.tt
  have c26_ : decide (v8 < (a0.refs.length : Int)) = false := decide_eq_false c26
  refine .condF rfl c26_ ?_
  refine .exit ?_
  cases h
  refine thenQ_ps ?_
  refine PostI.os ?_
  rintro rfl
  refine blockQ.hit (PostN.next ?_)
  exact Sub.tt
 rintro v25 h
 refine thenQ_normal ?_
 refine .seqQ (by kernel_rfl) (by kernel_rfl) ?_
 refine .rq 14 fun K k => ?_;simp;refine k ?_
 refine .tt [(2,.i (a0.backups.length : Int)),(3,.i v25),(4,.i (a0.changes.length : Int))] [] (.nil (.ret ?_))
 cases h
 exact FinC.rs
noncomputable def d22 (N : Nat) (a0 : S39) : Option (S39 × Int) :=
 (d27 N a0).bind fun r1 =>
 some (r1.1,(r1.2.length : Int))
theorem p22 (N : Nat) (a0 : S39) (gh1000 : List S35) (r : (S39 × Int)) (h : d22 N a0 = some r) : FunM Try.prog 22 [.ptr 1000 0 0] [(1000,some (.box [.ref 25000 gh1000.length a0.Backups.length,.ref 25001 0 a0.Changes.length,.i a0.Earliest])),(25000,R35 (gh1000 ++ a0.Backups)),(25001,R46 a0.Changes)] [1000] (.i r.2) ([(1000,(.box [.ref 25000 gh1000.length r.1.Backups.length,.ref 25001 0 r.1.Changes.length,.i r.1.Earliest])),(25000,(.arr 35 2 ((gh1000 ++ r.1.Backups).map cS35))),(25001,(.arr 46 3 (r.1.Changes.map cS46)))]) := by
 unfold d22 at h
 refine FunM.enter 6 [(0,.ptr 1000 0 0)] Try.func22 rfl (of_decide_eq_true rfl) rfl rfl ?_
 refine .seqR ?_
 refine .rr 1 ?_
 refine .tt [(0,.ptr 1000 0 0)] [(1000,some (.box [.ref 25000 gh1000.length a0.Backups.length,.ref 25001 0 a0.Changes.length,.i a0.Earliest])),(25000,R35 (gh1000 ++ a0.Backups)),(25001,R46 a0.Changes)] (.nil (.seqR ?_))
 refine .rr 1 ?_
 refine .tt [(3,.ptr 1000 0 0)] [(1000,some (.box [.ref 25000 gh1000.length a0.Backups.length,.ref 25001 0 a0.Changes.length,.i a0.Earliest])),(25000,R35 (gh1000 ++ a0.Backups)),(25001,R46 a0.Changes)] ?_
 replace h := bsome h;obtain ⟨r1,hr1,h⟩ := h
 refine .callFP (p27 N a0 gh1000 r1 hr1) [(1000,1000),(25000,25000),(25001,25001)] [1000] [(1000,1000),(25000,25000),(25001,25001)] [(1000,(.box [.ref 25000 gh1000.length r1.1.Backups.length,.ref 25001 0 r1.1.Changes.length,.d (.lit (.int .i64 r1.1.Earliest))])),(25000,(.arr 35 2 ((gh1000 ++ r1.1.Backups).map cS35))),(25001,(.arr 46 3 (r1.1.Changes.map cS46)))] (fun l => .s46 l) (by simp) rfl (by simp <;> rfl) (by simp) (by simp) (by simp) (by simp) (by simp) ent27 (by simp) (by simp) (by simp) (by simp) (by simp) (by intro l;simp) ?_
 intro l1 hl1
 refine .st (mk 6 [1000] [(3,.ptr 1000 0 0),(4,.s46 l1)] [(1000,some (.box [.ref 25000 gh1000.length r1.1.Backups.length,.ref 25001 0 r1.1.Changes.length,.i r1.1.Earliest])),(25000,R35 (gh1000 ++ r1.1.Backups)),(25001,R46 r1.1.Changes)]) ?_
 refine .rr 2 ?_
 refine .tt [(2,.i (l1.length : Int))] [(1000,some (.box [.ref 25000 gh1000.length r1.1.Backups.length,.ref 25001 0 r1.1.Changes.length,.i r1.1.Earliest])),(25000,R35 (gh1000 ++ r1.1.Backups)),(25001,R46 r1.1.Changes)] (.nil (.ret ?_))
 cases h
 exact FinF.ret (by simp [hl1.length_eq]) (by simp)
end Go.Proofs.Ytfdhaigfonolpaa
