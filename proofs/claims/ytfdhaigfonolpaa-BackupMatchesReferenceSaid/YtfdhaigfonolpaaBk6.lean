/- Functions of the program as functional programs; the code computes them. -/
import Derived.Test.YtfdhaigfonolpaaBk5
namespace Go.Proofs.Ytfdhaigfonolpaa
set_option maxRecDepth 100000
set_option maxHeartbeats 4000000
open Go.Ab Go.Rp
attribute [-simp] List.all_eq_true Array.all_toList Array.all_eq_true
noncomputable def d12 (N : Nat) (a0 : S39) (a1 : Int) : Option (S39 × (List (ByteArray × (List S71)))) :=
 Option.bind (α := (Int × (List (ByteArray × (List S71))))) (
  iterN (σ := (Int × (List (ByteArray × (List S71))) × Int)) (ρ := (Int × (List (ByteArray × (List S71))))) (fun ((v9,m10,v11) : (Int × (List (ByteArray × (List S71))) × Int)) =>
   if v11 < (a0.Backups.length : Int) then (
    (idx a0.Backups v11).bind fun x36 =>
    if x36.Time ≤ a1 then (
     bindO (β := List (ByteArray × (List S71))) (ρ := ((Int × (List (ByteArray × (List S71))) × Int) ⊕ (Int × (List (ByteArray × (List S71)))))) (
      rangeR List.Perm (κ := ByteArray × (List S71)) (β := List (ByteArray × (List S71))) (ρ := ((Int × (List (ByteArray × (List S71))) × Int) ⊕ (Int × (List (ByteArray × (List S71)))))) (fun (x39 : ByteArray × (List S71)) => fun (m40 : List (ByteArray × (List S71))) =>
       some (.go (mput m40 x39.1 x39.2))
      ) x36.State ([] : List (ByteArray × (List S71)))
     ) fun (m40 : List (ByteArray × (List S71))) =>
     (chkI (v11 + 1)).bind fun v42 =>
     some (.inl (x36.Time,m40,v42))
    ) else
    (chkI (v11 + 1)).bind fun v43 =>
    some (.inl (v9,m10,v43))
   ) else
   some (.inr (v9,m10))
  ) N ((-1),([] : List (ByteArray × (List S71))),0)
 ) fun ((v33,m34) : (Int × (List (ByteArray × (List S71))))) =>
 Option.bind (α := List (ByteArray × (List S71))) (
  iterN (σ := ((List (ByteArray × (List S71))) × Int)) (ρ := List (ByteArray × (List S71))) (fun ((m54,v55) : ((List (ByteArray × (List S71))) × Int)) =>
   if v55 < (a0.Changes.length : Int) then (
    (idx a0.Changes v55).bind fun x82 =>
    Option.bind (α := Bool) (
     if x82.Time > v33 then (
      some (decide (x82.Time ≤ a1))
     ) else
     some false
    ) fun (v85 : Bool) =>
    if v85 = true then (
     if ((x82.Row.length : Int) == 0) then (
      (chkI (v55 + 1)).bind fun v89 =>
      some (.inl ((Go.Ab.mdel (mput m54 x82.Key x82.Row) x82.Key),v89))
     ) else
     (chkI (v55 + 1)).bind fun v90 =>
     some (.inl ((mput m54 x82.Key x82.Row),v90))
    ) else
    (chkI (v55 + 1)).bind fun v91 =>
    some (.inl (m54,v91))
   ) else
   some (.inr m54)
  ) N (m34,0)
 ) fun (m80 : List (ByteArray × (List S71))) =>
 some (a0,m80)
theorem p12 (N : Nat) (a0 : S39) (a1 : Int) (gh1000 : List S35) (r : (S39 × (List (ByteArray × (List S71))))) (h : d12 N a0 a1 = some r) : FunM Try.prog 12 [.ptr 1000 0 0,.i a1] [(1000,some (.box [.ref 25000 gh1000.length a0.Backups.length,.ref 25001 0 a0.Changes.length,.i a0.Earliest])),(25000,R35 (gh1000 ++ a0.Backups)),(25001,R46 a0.Changes)] [1000] (.d (.mpi .string false (r.2.map (MKey.sk ∘ Prod.fst)) (r.2.map ((cL cS71) ∘ Prod.snd)))) ([(1000,(.box [.ref 25000 gh1000.length r.1.Backups.length,.ref 25001 0 r.1.Changes.length,.i r.1.Earliest])),(25000,(.arr 35 2 ((gh1000 ++ r.1.Backups).map cS35))),(25001,(.arr 46 3 (r.1.Changes.map cS46)))]) := by
 unfold d12 at h
 refine FunM.enter 75 [(0,.ptr 1000 0 0),(1,.i a1)] Try.func12 rfl (of_decide_eq_true rfl) rfl rfl ?_
 refine .seqR ?_
 refine .rr 1 ?_
 refine .tt [(0,.ptr 1000 0 0),(1,.i a1)] [(1000,some (.box [.ref 25000 gh1000.length a0.Backups.length,.ref 25001 0 a0.Changes.length,.i a0.Earliest])),(25000,R35 (gh1000 ++ a0.Backups)),(25001,R46 a0.Changes)] (.nil (.seqR ?_))
 refine .rr 1 ?_
 refine .tt [(0,.ptr 1000 0 0),(1,.i a1),(5,.i (-1))] [(1000,some (.box [.ref 25000 gh1000.length a0.Backups.length,.ref 25001 0 a0.Changes.length,.i a0.Earliest])),(25000,R35 (gh1000 ++ a0.Backups)),(25001,R46 a0.Changes)] (.nil (.seqR ?_))
 refine .mmake .string (by simp) rfl rfl (by simp) ?_
 refine .sub (S' := mk 75 [1000] [(0,.ptr 1000 0 0),(1,.i a1),(5,.i (-1)),(13,.mref 13)] [(13,some (.mp .string (encM MKey.sk (vO cS71) ([] : List (ByteArray × (List S71)))))),(1000,some (.box [.ref 25000 gh1000.length a0.Backups.length,.ref 25001 0 a0.Changes.length,.i a0.Earliest])),(25000,R35 (gh1000 ++ a0.Backups)),(25001,R46 a0.Changes)]) (by simp;exact Sub.table (by simp) (by simp [encM_nil])) ?_
 refine .rr 1 ?_
 refine .tt [(0,.ptr 1000 0 0),(1,.i a1),(5,.i (-1)),(6,.mref 13)] [(13,some (.mp .string (encM MKey.sk (vO cS71) ([] : List (ByteArray × (List S71)))))),(1000,some (.box [.ref 25000 gh1000.length a0.Backups.length,.ref 25001 0 a0.Changes.length,.i a0.Earliest])),(25000,R35 (gh1000 ++ a0.Backups)),(25001,R46 a0.Changes)] ?_
 refine .sub (S' := mk 75 [1000] [(0,.ptr 1000 0 0),(1,.i a1),(5,.i (-1)),(6,.mref 700006)] [(1000,some (.box [.ref 25000 gh1000.length a0.Backups.length,.ref 25001 0 a0.Changes.length,.i a0.Earliest])),(25000,R35 (gh1000 ++ a0.Backups)),(25001,R46 a0.Changes),(700006,some (.mp .string (encM MKey.sk (vO cS71) ([] : List (ByteArray × (List S71))))))]) (Sub.names [(13,700006),(1000,1000),(25000,25000),(25001,25001)] (by simp) (by simp) (by simp [back]) (by simp [V.rnm,lk2]) (by simp [back,Blk.rnm,V.rnm,rnmL,lk2])) ?_
 refine .nil (.seq (.seqR ?_))
 refine .rr 6 ?_
 refine .tt [(0,.ptr 1000 0 0),(1,.i a1),(5,.i (-1)),(6,.mref 700006),(17,.ref 25000 gh1000.length a0.Backups.length),(18,.i (a0.Backups.length : Int)),(19,.i 0)] [(1000,some (.box [.ref 25000 gh1000.length a0.Backups.length,.ref 25001 0 a0.Changes.length,.i a0.Earliest])),(25000,R35 (gh1000 ++ a0.Backups)),(25001,R46 a0.Changes),(700006,some (.mp .string (encM MKey.sk (vO cS71) ([] : List (ByteArray × (List S71))))))] (.nil ?_)
 refine .lastN (fun ((v33,m34) : (Int × (List (ByteArray × (List S71))))) => mk 75 [1000] [(0,.ptr 1000 0 0),(1,.i a1),(5,.i v33),(6,.mref 700006)] [(1000,some (.box [.ref 25000 gh1000.length a0.Backups.length,.ref 25001 0 a0.Changes.length,.i a0.Earliest])),(25000,R35 (gh1000 ++ a0.Backups)),(25001,R46 a0.Changes),(700006,some (.mp .string (encM MKey.sk (vO cS71) m34)))]) h ?_ ?_ <;> clear h
 ·intro o h
  refine .block ?_
  refine .iter (fun ((v9,m10,v11) : (Int × (List (ByteArray × (List S71))) × Int)) => mk 75 [1000] (L23 a1 v9 gh1000.length a0.Backups.length v11) [(1000,some (.box [.ref 25000 gh1000.length a0.Backups.length,.ref 25001 0 a0.Changes.length,.i a0.Earliest])),(25000,R35 (gh1000 ++ a0.Backups)),(25001,R46 a0.Changes),(700006,some (.mp .string (encM MKey.sk (vO cS71) m10)))]) h Sub.tt ?_
  clear h
  rintro ⟨v9,m10,v11⟩ x h
  dsimp only at h ⊢
  refine .seqR ?_
  refine .rr 1 ?_
  refine .tt (L23 a1 v9 gh1000.length a0.Backups.length v11 ++ [(20,.b (decide (v11 < (a0.Backups.length : Int))))]) [(1000,some (.box [.ref 25000 gh1000.length a0.Backups.length,.ref 25001 0 a0.Changes.length,.i a0.Earliest])),(25000,R35 (gh1000 ++ a0.Backups)),(25001,R46 a0.Changes),(700006,some (.mp .string (encM MKey.sk (vO cS71) m10)))] (.nil (.seq ?_))
  replace h := isome h;rcases h with ⟨c35,h⟩ | ⟨c35,h⟩
  ·have c35_ : decide (v11 < (a0.Backups.length : Int)) = true := decide_eq_true c35
   refine .condT rfl c35_ ?_
   refine .skip (thenQ_normal (.seq (.block (.seqR ?_))))
   replace h := xsome h;obtain ⟨x36,k37,hx36k,hx36,hx36a,hx36b,h⟩ := h
   refine .rk 4 fun K k => ?_;simp [hx36,hx36k,hx36a,hx36b];refine k ?_
   refine .tt (L24 a1 v9 gh1000.length a0.Backups.length v11) [(8,some (.box [.i x36.Time,.d (.mpi .string false (x36.State.map (MKey.sk ∘ Prod.fst)) (x36.State.map ((cL cS71) ∘ Prod.snd)))])),(1000,some (.box [.ref 25000 gh1000.length a0.Backups.length,.ref 25001 0 a0.Changes.length,.i a0.Earliest])),(25000,R35 (gh1000 ++ a0.Backups)),(25001,R46 a0.Changes),(700006,some (.mp .string (encM MKey.sk (vO cS71) m10)))] (.nil (.seqR ?_))
   refine .rr 4 ?_
   refine .tt (L24 a1 v9 gh1000.length a0.Backups.length v11 ++ [(26,.b (decide (x36.Time ≤ a1)))]) [(8,some (.box [.i x36.Time,.d (.mpi .string false (x36.State.map (MKey.sk ∘ Prod.fst)) (x36.State.map ((cL cS71) ∘ Prod.snd)))])),(1000,some (.box [.ref 25000 gh1000.length a0.Backups.length,.ref 25001 0 a0.Changes.length,.i a0.Earliest])),(25000,R35 (gh1000 ++ a0.Backups)),(25001,R46 a0.Changes),(700006,some (.mp .string (encM MKey.sk (vO cS71) m10)))] (.nil ?_)
   replace h := isome h;rcases h with ⟨c38,h⟩ | ⟨c38,h⟩
   ·have c38_ : decide (x36.Time ≤ a1) = true := decide_eq_true c38
    refine .condT rfl c38_ ?_
    refine .seqR ?_
    refine .rr 3 ?_
    refine .tt [(0,.ptr 1000 0 0),(1,.i a1),(5,.i x36.Time),(8,.ptr 8 0 0),(17,.ref 25000 gh1000.length a0.Backups.length),(18,.i (a0.Backups.length : Int)),(19,.i v11)] [(8,some (.box [.i x36.Time,.d (.mpi .string false (x36.State.map (MKey.sk ∘ Prod.fst)) (x36.State.map ((cL cS71) ∘ Prod.snd)))])),(1000,some (.box [.ref 25000 gh1000.length a0.Backups.length,.ref 25001 0 a0.Changes.length,.i a0.Earliest])),(25000,R35 (gh1000 ++ a0.Backups)),(25001,R46 a0.Changes)] (.nil (.seqR ?_))
    refine .mmake .string (by simp) rfl rfl (by simp) ?_
    refine .sub (S' := mk 75 [1000] [(0,.ptr 1000 0 0),(1,.i a1),(5,.i x36.Time),(8,.ptr 8 0 0),(17,.ref 25000 gh1000.length a0.Backups.length),(18,.i (a0.Backups.length : Int)),(19,.i v11),(29,.mref 29)] [(8,some (.box [.i x36.Time,.d (.mpi .string false (x36.State.map (MKey.sk ∘ Prod.fst)) (x36.State.map ((cL cS71) ∘ Prod.snd)))])),(29,some (.mp .string (encM MKey.sk (vO cS71) ([] : List (ByteArray × (List S71)))))),(1000,some (.box [.ref 25000 gh1000.length a0.Backups.length,.ref 25001 0 a0.Changes.length,.i a0.Earliest])),(25000,R35 (gh1000 ++ a0.Backups)),(25001,R46 a0.Changes)]) (by simp;exact Sub.table (by simp) (by simp [encM_nil])) ?_
    refine .rr 1 ?_
    refine .tt [(0,.ptr 1000 0 0),(1,.i a1),(5,.i x36.Time),(6,.mref 29),(8,.ptr 8 0 0),(17,.ref 25000 gh1000.length a0.Backups.length),(18,.i (a0.Backups.length : Int)),(19,.i v11)] [(8,some (.box [.i x36.Time,.d (.mpi .string false (x36.State.map (MKey.sk ∘ Prod.fst)) (x36.State.map ((cL cS71) ∘ Prod.snd)))])),(29,some (.mp .string (encM MKey.sk (vO cS71) ([] : List (ByteArray × (List S71)))))),(1000,some (.box [.ref 25000 gh1000.length a0.Backups.length,.ref 25001 0 a0.Changes.length,.i a0.Earliest])),(25000,R35 (gh1000 ++ a0.Backups)),(25001,R46 a0.Changes)] ?_
    refine .sub (S' := mk 75 [1000] (L24 a1 x36.Time gh1000.length a0.Backups.length v11) [(8,some (.box [.i x36.Time,.d (.mpi .string false (x36.State.map (MKey.sk ∘ Prod.fst)) (x36.State.map ((cL cS71) ∘ Prod.snd)))])),(1000,some (.box [.ref 25000 gh1000.length a0.Backups.length,.ref 25001 0 a0.Changes.length,.i a0.Earliest])),(25000,R35 (gh1000 ++ a0.Backups)),(25001,R46 a0.Changes),(700006,some (.mp .string (encM MKey.sk (vO cS71) ([] : List (ByteArray × (List S71))))))]) (Sub.names [(8,8),(29,700006),(1000,1000),(25000,25000),(25001,25001)] (by simp) (by simp) (by simp [back]) (by simp [V.rnm,lk2]) (by simp [back,Blk.rnm,V.rnm,rnmL,lk2])) ?_
    refine .nil ?_
    refine .lastJ (fun (m40 : List (ByteArray × (List S71))) => mk 75 [1000] (L23 a1 x36.Time gh1000.length a0.Backups.length v11) [(1000,some (.box [.ref 25000 gh1000.length a0.Backups.length,.ref 25001 0 a0.Changes.length,.i a0.Earliest])),(25000,R35 (gh1000 ++ a0.Backups)),(25001,R46 a0.Changes),(700006,some (.mp .string (encM MKey.sk (vO cS71) m40)))]) h ?_ ?_ <;> clear h
    ·intro o h
     refine .mapRR List.Perm 2 (mk 75 [1000] (L23 a1 x36.Time gh1000.length a0.Backups.length v11 ++ [(31,.d (.mpi .string false (x36.State.map (MKey.sk ∘ Prod.fst)) (x36.State.map ((cL cS71) ∘ Prod.snd))))]) [(1000,some (.box [.ref 25000 gh1000.length a0.Backups.length,.ref 25001 0 a0.Changes.length,.i a0.Earliest])),(25000,R35 (gh1000 ++ a0.Backups)),(25001,R46 a0.Changes),(700006,some (.mp .string (encM MKey.sk (vO cS71) ([] : List (ByteArray × (List S71))))))]) (fun (itr39 : Nat) (b : List (ByteArray × (List S71))) => mk 75 [1000] (L23 a1 x36.Time gh1000.length a0.Backups.length v11 ++ [(32,.d (.lit (itv itr39)))]) [(1000,some (.box [.ref 25000 gh1000.length a0.Backups.length,.ref 25001 0 a0.Changes.length,.i a0.Earliest])),(25000,R35 (gh1000 ++ a0.Backups)),(25001,R46 a0.Changes),(700006,some (.mp .string (encM MKey.sk (vO cS71) b)))]) _ rfl ?_ rfl rfl rfl rfl ty33 rfl rfl rfl rfl rfl rfl rfl rfl rfl rfl (by intro r b;exact ⟨(by show 33 < 75;decide),(by show 34 < 75;decide),by decide,by decide,by decide⟩) (by intro r b;exact ⟨rfl,rfl,rfl⟩) (by intro r;simp;exact Sub.table (by simp) (by simp)) (by rintro r m40;exact Sub.table (by simp) (by simp)) h (by rintro b c hp;exact Sub.trans (Sub.mperm 700006 (encM_perm hp) rfl) Sub.tt) ?_
     ·simp only [List.take_succ_cons,List.take_zero]
      refine .rr 2 ?_
      refine .tt (L23 a1 x36.Time gh1000.length a0.Backups.length v11 ++ [(31,.d (.mpi .string false (x36.State.map (MKey.sk ∘ Prod.fst)) (x36.State.map ((cL cS71) ∘ Prod.snd))))]) [(1000,some (.box [.ref 25000 gh1000.length a0.Backups.length,.ref 25001 0 a0.Changes.length,.i a0.Earliest])),(25000,R35 (gh1000 ++ a0.Backups)),(25001,R46 a0.Changes),(700006,some (.mp .string (encM MKey.sk (vO cS71) ([] : List (ByteArray × (List S71))))))] ?_
      refine .nil (.refl _)
     clear h
     rintro itr39 x39 m40 o' h
     try dsimp only at h ⊢
     refine .sub (S' := mk 75 [1000] (L23 a1 x36.Time gh1000.length a0.Backups.length v11 ++ [(32,.d (.lit (itv itr39))),(35,.tup [.s x39.1,.s71 x39.2])]) [(1000,some (.box [.ref 25000 gh1000.length a0.Backups.length,.ref 25001 0 a0.Changes.length,.i a0.Earliest])),(25000,R35 (gh1000 ++ a0.Backups)),(25001,R46 a0.Changes),(700006,some (.mp .string (encM MKey.sk (vO cS71) m40)))]) (by simp [MKey.enc];exact Sub.table (by simp) (by simp)) ?_
     refine .rr 4 ?_
     refine .tt [(0,.ptr 1000 0 0),(1,.i a1),(5,.i x36.Time),(6,.mref 700006),(9,.s x39.1),(10,.s71 x39.2),(17,.ref 25000 gh1000.length a0.Backups.length),(18,.i (a0.Backups.length : Int)),(19,.i v11),(32,.d (.lit (itv itr39)))] [(1000,some (.box [.ref 25000 gh1000.length a0.Backups.length,.ref 25001 0 a0.Changes.length,.i a0.Earliest])),(25000,R35 (gh1000 ++ a0.Backups)),(25001,R46 a0.Changes),(700006,some (.mp .string (encM MKey.sk (vO cS71) m40)))] (.nil (.region ?_))
     refine .rr 3 ?_
     refine .tt (L23 a1 x36.Time gh1000.length a0.Backups.length v11 ++ [(32,.d (.lit (itv itr39))),(38,.mref 700006),(39,.s x39.1),(40,.s71 x39.2)]) [(1000,some (.box [.ref 25000 gh1000.length a0.Backups.length,.ref 25001 0 a0.Changes.length,.i a0.Earliest])),(25000,R35 (gh1000 ++ a0.Backups)),(25001,R46 a0.Changes),(700006,some (.mp .string (encM MKey.sk (vO cS71) m40)))] ?_
     refine .msetE (vf := (vO cS71)) sk_inj m40 x39.1 x39.2 (by simp) (.inl rfl) ty33 rfl ty9 rfl rfl rfl rfl rfl rfl rfl ?_
     refine .st (mk 75 [1000] (L23 a1 x36.Time gh1000.length a0.Backups.length v11 ++ [(32,.d (.lit (itv itr39))),(38,.mref 700006),(39,.s x39.1),(40,.s71 x39.2)]) [(1000,some (.box [.ref 25000 gh1000.length a0.Backups.length,.ref 25001 0 a0.Changes.length,.i a0.Earliest])),(25000,R35 (gh1000 ++ a0.Backups)),(25001,R46 a0.Changes),(700006,some (.mp .string (encM MKey.sk (vO cS71) (mput m40 x39.1 x39.2))))]) (.nil ?_)
     cases h
     refine blockQ.normal ?_
     exact ⟨rfl,Sub.tt⟩
    rintro m40 h
    refine blockQ.normal (thenQ_normal (.region ?_))
    replace h := csome h;obtain ⟨v42,hv42,h⟩ := h
    refine .rk 2 fun K k => ?_;simp [hv42];refine k ?_
    refine .tt (L23 a1 x36.Time gh1000.length a0.Backups.length v42) [(1000,some (.box [.ref 25000 gh1000.length a0.Backups.length,.ref 25001 0 a0.Changes.length,.i a0.Earliest])),(25000,R35 (gh1000 ++ a0.Backups)),(25001,R46 a0.Changes),(700006,some (.mp .string (encM MKey.sk (vO cS71) m40)))] (.nil ?_)
    cases h
    refine PostI.next ?_
    exact Sub.tt
   have c38_ : decide (x36.Time ≤ a1) = false := decide_eq_false c38
   refine .condF rfl c38_ ?_
   refine .skip (blockQ.normal (thenQ_normal (.region ?_)))
   replace h := csome h;obtain ⟨v43,hv43,h⟩ := h
   refine .rk 2 fun K k => ?_;simp [hv43];refine k ?_
   refine .tt (L23 a1 v9 gh1000.length a0.Backups.length v43) [(1000,some (.box [.ref 25000 gh1000.length a0.Backups.length,.ref 25001 0 a0.Changes.length,.i a0.Earliest])),(25000,R35 (gh1000 ++ a0.Backups)),(25001,R46 a0.Changes),(700006,some (.mp .string (encM MKey.sk (vO cS71) m10)))] (.nil ?_)
   cases h
   refine PostI.next ?_
   exact Sub.tt
  have c35_ : decide (v11 < (a0.Backups.length : Int)) = false := decide_eq_false c35
  refine .condF rfl c35_ ?_
  refine .exit ?_
  cases h
  refine thenQ_ps ?_
  refine PostI.os ?_
  rintro rfl
  refine blockQ.hit (PostN.next ?_)
  exact Sub.tt
 rintro ⟨v33,m34⟩ h
 dsimp only at h ⊢
 refine thenQ_normal (.seq (.seqR ?_))
 refine .rr 6 ?_
 refine .tt [(1,.i a1),(5,.i v33),(6,.mref 700006),(45,.ref 25001 0 a0.Changes.length),(46,.i (a0.Changes.length : Int)),(47,.i 0)] [(1000,some (.box [.ref 25000 gh1000.length a0.Backups.length,.ref 25001 0 a0.Changes.length,.i a0.Earliest])),(25000,R35 (gh1000 ++ a0.Backups)),(25001,R46 a0.Changes),(700006,some (.mp .string (encM MKey.sk (vO cS71) m34)))] (.nil ?_)
 refine .lastN (fun (m80 : List (ByteArray × (List S71))) => mk 75 [1000] [(6,.mref 700006)] [(1000,some (.box [.ref 25000 gh1000.length a0.Backups.length,.ref 25001 0 a0.Changes.length,.i a0.Earliest])),(25000,R35 (gh1000 ++ a0.Backups)),(25001,R46 a0.Changes),(700006,some (.mp .string (encM MKey.sk (vO cS71) m80)))]) h ?_ ?_ <;> clear h
 ·intro o h
  refine .block ?_
  refine .iter (fun ((m54,v55) : ((List (ByteArray × (List S71))) × Int)) => mk 75 [1000] (L25 a1 v33 a0.Changes.length v55) [(1000,some (.box [.ref 25000 gh1000.length a0.Backups.length,.ref 25001 0 a0.Changes.length,.i a0.Earliest])),(25000,R35 (gh1000 ++ a0.Backups)),(25001,R46 a0.Changes),(700006,some (.mp .string (encM MKey.sk (vO cS71) m54)))]) h Sub.tt ?_
  clear h
  rintro ⟨m54,v55⟩ x h
  dsimp only at h ⊢
  refine .seqR ?_
  refine .rr 1 ?_
  refine .tt (L25 a1 v33 a0.Changes.length v55 ++ [(48,.b (decide (v55 < (a0.Changes.length : Int))))]) [(1000,some (.box [.ref 25000 gh1000.length a0.Backups.length,.ref 25001 0 a0.Changes.length,.i a0.Earliest])),(25000,R35 (gh1000 ++ a0.Backups)),(25001,R46 a0.Changes),(700006,some (.mp .string (encM MKey.sk (vO cS71) m54)))] (.nil (.seq ?_))
  replace h := isome h;rcases h with ⟨c81,h⟩ | ⟨c81,h⟩
  ·have c81_ : decide (v55 < (a0.Changes.length : Int)) = true := decide_eq_true c81
   refine .condT rfl c81_ ?_
   refine .skip (thenQ_normal (.seq (.block (.seqR ?_))))
   replace h := xsome h;obtain ⟨x82,k83,hx82k,hx82,hx82a,hx82b,h⟩ := h
   refine .rk 4 fun K k => ?_;simp [hx82,hx82k,hx82a,hx82b];refine k ?_
   refine .tt (L26 a1 v33 a0.Changes.length v55) [(12,some (.box [.i x82.Time,.s x82.Key,.s71 x82.Row])),(1000,some (.box [.ref 25000 gh1000.length a0.Backups.length,.ref 25001 0 a0.Changes.length,.i a0.Earliest])),(25000,R35 (gh1000 ++ a0.Backups)),(25001,R46 a0.Changes),(700006,some (.mp .string (encM MKey.sk (vO cS71) m54)))] (.nil ?_)
   replace h := bsome h;obtain ⟨v85,hj,h⟩ := h
   refine .cutR (mk 75 [1000] (L26 a1 v33 a0.Changes.length v55 ++ [(60,.b v85)]) [(12,some (.box [.i x82.Time,.s x82.Key,.s71 x82.Row])),(1000,some (.box [.ref 25000 gh1000.length a0.Backups.length,.ref 25001 0 a0.Changes.length,.i a0.Earliest])),(25000,R35 (gh1000 ++ a0.Backups)),(25001,R46 a0.Changes),(700006,some (.mp .string (encM MKey.sk (vO cS71) m54)))]) ?_ ?_
   ·clear h;have h := hj;clear hj
    refine .rr 5 ?_
    refine .tt (L26 a1 v33 a0.Changes.length v55 ++ [(55,.b (decide (x82.Time > v33)))]) [(12,some (.box [.i x82.Time,.s x82.Key,.s71 x82.Row])),(1000,some (.box [.ref 25000 gh1000.length a0.Backups.length,.ref 25001 0 a0.Changes.length,.i a0.Earliest])),(25000,R35 (gh1000 ++ a0.Backups)),(25001,R46 a0.Changes),(700006,some (.mp .string (encM MKey.sk (vO cS71) m54)))] ?_
    replace h := isome h;rcases h with ⟨c86,h⟩ | ⟨c86,h⟩
    ·have c86_ : decide (x82.Time > v33) = true := decide_eq_true c86
     refine .sub (.bool 55 rfl c86_) ?_
     refine .st (mk 75 [1000] (L26 a1 v33 a0.Changes.length v55 ++ [(55,.b true)]) [(12,some (.box [.i x82.Time,.s x82.Key,.s71 x82.Row])),(1000,some (.box [.ref 25000 gh1000.length a0.Backups.length,.ref 25001 0 a0.Changes.length,.i a0.Earliest])),(25000,R35 (gh1000 ++ a0.Backups)),(25001,R46 a0.Changes),(700006,some (.mp .string (encM MKey.sk (vO cS71) m54)))]) ?_
     refine .rr 5 ?_
     refine .tt (L26 a1 v33 a0.Changes.length v55 ++ [(56,.ptr 12 0 0),(57,.i x82.Time),(58,.i a1),(59,.b (decide (x82.Time ≤ a1))),(60,.b (decide (x82.Time ≤ a1)))]) [(12,some (.box [.i x82.Time,.s x82.Key,.s71 x82.Row])),(1000,some (.box [.ref 25000 gh1000.length a0.Backups.length,.ref 25001 0 a0.Changes.length,.i a0.Earliest])),(25000,R35 (gh1000 ++ a0.Backups)),(25001,R46 a0.Changes),(700006,some (.mp .string (encM MKey.sk (vO cS71) m54)))] ?_
     cases h
     exact .nil .tt
    have c86_ : decide (x82.Time > v33) = false := decide_eq_false c86
    refine .sub (.bool 55 rfl c86_) ?_
    refine .st (mk 75 [1000] (L26 a1 v33 a0.Changes.length v55 ++ [(55,.b false)]) [(12,some (.box [.i x82.Time,.s x82.Key,.s71 x82.Row])),(1000,some (.box [.ref 25000 gh1000.length a0.Backups.length,.ref 25001 0 a0.Changes.length,.i a0.Earliest])),(25000,R35 (gh1000 ++ a0.Backups)),(25001,R46 a0.Changes),(700006,some (.mp .string (encM MKey.sk (vO cS71) m54)))]) ?_
    refine .rr 5 ?_
    refine .tt (L26 a1 v33 a0.Changes.length v55 ++ [(56,.tup []),(57,.tup []),(58,.tup []),(59,.tup []),(60,.b false)]) [(12,some (.box [.i x82.Time,.s x82.Key,.s71 x82.Row])),(1000,some (.box [.ref 25000 gh1000.length a0.Backups.length,.ref 25001 0 a0.Changes.length,.i a0.Earliest])),(25000,R35 (gh1000 ++ a0.Backups)),(25001,R46 a0.Changes),(700006,some (.mp .string (encM MKey.sk (vO cS71) m54)))] ?_
    cases h
    exact .nil .tt
   clear hj
   replace h := isome h;rcases h with ⟨c87,h⟩ | ⟨c87,h⟩
   ·have c87_ : v85 = true := c87
    refine .condT rfl c87_ ?_
    refine .seqR ?_
    refine .rr 5 ?_
    refine .tt (L26 a1 v33 a0.Changes.length v55 ++ [(61,.mref 700006),(63,.s x82.Key),(65,.s71 x82.Row)]) [(12,some (.box [.i x82.Time,.s x82.Key,.s71 x82.Row])),(1000,some (.box [.ref 25000 gh1000.length a0.Backups.length,.ref 25001 0 a0.Changes.length,.i a0.Earliest])),(25000,R35 (gh1000 ++ a0.Backups)),(25001,R46 a0.Changes),(700006,some (.mp .string (encM MKey.sk (vO cS71) m54)))] ?_
    refine .msetE (vf := (vO cS71)) sk_inj m54 x82.Key x82.Row (by simp) (.inl rfl) ty33 rfl ty9 rfl rfl rfl rfl rfl rfl rfl ?_
    refine .st (mk 75 [1000] (L26 a1 v33 a0.Changes.length v55 ++ [(61,.mref 700006),(63,.s x82.Key),(65,.s71 x82.Row)]) [(12,some (.box [.i x82.Time,.s x82.Key,.s71 x82.Row])),(1000,some (.box [.ref 25000 gh1000.length a0.Backups.length,.ref 25001 0 a0.Changes.length,.i a0.Earliest])),(25000,R35 (gh1000 ++ a0.Backups)),(25001,R46 a0.Changes),(700006,some (.mp .string (encM MKey.sk (vO cS71) (mput m54 x82.Key x82.Row))))]) (.nil (.seqR ?_))
    refine .rr 4 ?_
    refine .tt (L26 a1 v33 a0.Changes.length v55 ++ [(69,.b ((x82.Row.length : Int) == 0))]) [(12,some (.box [.i x82.Time,.s x82.Key,.s71 x82.Row])),(1000,some (.box [.ref 25000 gh1000.length a0.Backups.length,.ref 25001 0 a0.Changes.length,.i a0.Earliest])),(25000,R35 (gh1000 ++ a0.Backups)),(25001,R46 a0.Changes),(700006,some (.mp .string (encM MKey.sk (vO cS71) (mput m54 x82.Key x82.Row))))] (.nil ?_)
    replace h := isome h;rcases h with ⟨c88,h⟩ | ⟨c88,h⟩
    ·have c88_ : ((x82.Row.length : Int) == 0) = true := c88
     refine .condT rfl c88_ ?_
     refine .region ?_
     refine .rr 3 ?_
     refine .tt (L25 a1 v33 a0.Changes.length v55 ++ [(70,.mref 700006),(72,.s x82.Key)]) [(1000,some (.box [.ref 25000 gh1000.length a0.Backups.length,.ref 25001 0 a0.Changes.length,.i a0.Earliest])),(25000,R35 (gh1000 ++ a0.Backups)),(25001,R46 a0.Changes),(700006,some (.mp .string (encM MKey.sk (vO cS71) (mput m54 x82.Key x82.Row))))] ?_
     refine .mdelE (vf := (vO cS71)) sk_inj (mput m54 x82.Key x82.Row) x82.Key (by simp) rfl rfl rfl rfl ty33 rfl ty9 rfl rfl rfl rfl rfl ?_
     refine .st (mk 75 [1000] (L25 a1 v33 a0.Changes.length v55 ++ [(70,.mref 700006),(72,.s x82.Key)]) [(1000,some (.box [.ref 25000 gh1000.length a0.Backups.length,.ref 25001 0 a0.Changes.length,.i a0.Earliest])),(25000,R35 (gh1000 ++ a0.Backups)),(25001,R46 a0.Changes),(700006,some (.mp .string (encM MKey.sk (vO cS71) (Go.Ab.mdel (mput m54 x82.Key x82.Row) x82.Key))))]) (.nil (blockQ.normal (thenQ_normal (.region ?_))))
     replace h := csome h;obtain ⟨v89,hv89,h⟩ := h
     refine .rk 2 fun K k => ?_;simp [hv89];refine k ?_
     refine .tt (L25 a1 v33 a0.Changes.length v89) [(1000,some (.box [.ref 25000 gh1000.length a0.Backups.length,.ref 25001 0 a0.Changes.length,.i a0.Earliest])),(25000,R35 (gh1000 ++ a0.Backups)),(25001,R46 a0.Changes),(700006,some (.mp .string (encM MKey.sk (vO cS71) (Go.Ab.mdel (mput m54 x82.Key x82.Row) x82.Key))))] (.nil ?_)
     cases h
     refine PostI.next ?_
     exact Sub.tt
    have c88_ : ((x82.Row.length : Int) == 0) = false := Bool.eq_false_iff.2 c88
    refine .condF rfl c88_ ?_
    refine .skip (blockQ.normal (thenQ_normal (.region ?_)))
    replace h := csome h;obtain ⟨v90,hv90,h⟩ := h
    refine .rk 2 fun K k => ?_;simp [hv90];refine k ?_
    refine .tt (L25 a1 v33 a0.Changes.length v90) [(1000,some (.box [.ref 25000 gh1000.length a0.Backups.length,.ref 25001 0 a0.Changes.length,.i a0.Earliest])),(25000,R35 (gh1000 ++ a0.Backups)),(25001,R46 a0.Changes),(700006,some (.mp .string (encM MKey.sk (vO cS71) (mput m54 x82.Key x82.Row))))] (.nil ?_)
    cases h
    refine PostI.next ?_
    exact Sub.tt
   have c87_ : v85 = false := Bool.eq_false_iff.2 c87
   refine .condF rfl c87_ ?_
   refine .skip (blockQ.normal (thenQ_normal (.region ?_)))
   replace h := csome h;obtain ⟨v91,hv91,h⟩ := h
   refine .rk 2 fun K k => ?_;simp [hv91];refine k ?_
   refine .tt (L25 a1 v33 a0.Changes.length v91) [(1000,some (.box [.ref 25000 gh1000.length a0.Backups.length,.ref 25001 0 a0.Changes.length,.i a0.Earliest])),(25000,R35 (gh1000 ++ a0.Backups)),(25001,R46 a0.Changes),(700006,some (.mp .string (encM MKey.sk (vO cS71) m54)))] (.nil ?_)
   cases h
   refine PostI.next ?_
   exact Sub.tt
  have c81_ : decide (v55 < (a0.Changes.length : Int)) = false := decide_eq_false c81
  refine .condF rfl c81_ ?_
  refine .exit ?_
  cases h
  refine thenQ_ps ?_
  refine PostI.os ?_
  rintro rfl
  refine blockQ.hit (PostN.next ?_)
  exact Sub.tt
 rintro m80 h
 refine thenQ_normal (.seqR ?_)
 refine .rr 2 ?_
 refine .tt [(4,.mref 700006)] [(1000,some (.box [.ref 25000 gh1000.length a0.Backups.length,.ref 25001 0 a0.Changes.length,.i a0.Earliest])),(25000,R35 (gh1000 ++ a0.Backups)),(25001,R46 a0.Changes),(700006,some (.mp .string (encM MKey.sk (vO cS71) m80)))] (.nil ?_)
 refine .sub (.freezeM 700006 (ag := false) (cf := (cL cS71)) m80 rfl (fun _ => rfl) (fun _ _ => rfl)) ?_
 refine .st (mk 75 [1000] [(4,.d (.mpi .string false (m80.map (MKey.sk ∘ Prod.fst)) (m80.map ((cL cS71) ∘ Prod.snd))))] [(1000,some (.box [.ref 25000 gh1000.length a0.Backups.length,.ref 25001 0 a0.Changes.length,.i a0.Earliest])),(25000,R35 (gh1000 ++ a0.Backups)),(25001,R46 a0.Changes)]) (.ret ?_)
 cases h
 exact FinF.ret (by simp) (by simp)
def d46 (N : Nat) (a0 : S46) (a1 : ByteArray) (a2 : (List S71)) : Option Bool :=
 Option.bind (α := Bool) (
  if decide (a0.Key = a1) = true then (
   (d30 N a0.Row a2).bind fun r5 =>
   some r5
  ) else
  some false
 ) fun (v3 : Bool) =>
 some v3
theorem p46 (N : Nat) (a0 : S46) (a1 : ByteArray) (a2 : (List S71)) (r : Bool) (h : d46 N a0 a1 a2 = some r) : FunC Try.prog 46 [.agg [.i a0.Time,.s a0.Key,.s71 a0.Row],.d (.pim [.lit (.string a1)]),.d (.pim [.sl (a2.map cS71)])] (.b r) := by
 unfold d46 at h
 refine FunC.enter 15 [(0,.agg [.i a0.Time,.s a0.Key,.s71 a0.Row]),(1,.d (.pim [.lit (.string a1)])),(2,.d (.pim [.sl (a2.map cS71)]))] (by simp) Try.func46 rfl (of_decide_eq_true rfl) rfl rfl ?_
 refine .seqR ?_
 refine .rr 2 ?_
 refine .tt [(1,.d (.pim [.lit (.string a1)])),(2,.d (.pim [.sl (a2.map cS71)])),(3,.ptr 3 0 0)] (H8 a0) (.nil ?_)
 replace h := bsome h;obtain ⟨v3,hj,h⟩ := h
 refine .cutR (mk 15 [] [(4,.b v3)] []) ?_ ?_
 ·clear h;have h := hj;clear hj
  refine .rr 5 ?_
  refine .tt (L27 a2 ++ [(9,.b (decide (a0.Key = a1)))]) (H8 a0) ?_
  replace h := isome h;rcases h with ⟨c4,h⟩ | ⟨c4,h⟩
  ·have c4_ : decide (a0.Key = a1) = true := c4
   refine .sub (.bool 9 rfl c4_) ?_
   refine .st (mk 15 [] (L27 a2 ++ [(9,.b true)]) (H8 a0)) ?_
   refine .rr 3 ?_
   refine .tt (L28 a0.Row a2) [] ?_
   replace h := bsome h;obtain ⟨r5,hr5,h⟩ := h
   refine .callL (d := 13) (p30 N a0.Row a2 r5 hr5) (by simp) rfl rfl (by simp <;> rfl) (by simp <;> rfl) ent30 (by simp <;> rfl) ?_
   refine .st (mk 15 [] (L28 a0.Row a2 ++ [(13,.b r5)]) []) ?_
   refine .rr 2 ?_
   refine .tt [(4,.b r5)] [] ?_
   cases h
   exact .nil .tt
  have c4_ : decide (a0.Key = a1) = false := Bool.eq_false_iff.2 c4
  refine .sub (.bool 9 rfl c4_) ?_
  refine .st (mk 15 [] (L27 a2 ++ [(9,.b false)]) (H8 a0)) ?_
  refine .rr 6 ?_
  refine .tt [(4,.b false)] [] ?_
  cases h
  exact .nil .tt
 clear hj
 refine .ret ?_
 cases h
 exact FinC.rs
def d34 (N : Nat) (a0 : (List S46)) (p1 : S46 → Option Bool) : Option Int :=
 bindO (β := Unit) (ρ := Int) (
  iterN (σ := Int) (ρ := (Out Unit Int)) (fun (v6 : Int) =>
   if v6 < (a0.length : Int) then (
    (idx a0 v6).bind fun x21 =>
    (p1 x21).bind fun r23 =>
    if r23 = true then (
     some (.inr (.ret v6))
    ) else
    (chkI (v6 + 1)).bind fun v25 =>
    some (.inl v25)
   ) else
   some (.inr (.go ()))
  ) N 0
 ) fun (_ : Unit) =>
 some (-1)
theorem p34 (N : Nat) (a0 : (List S46)) (g1 : Nat) (cs1 : List D) (p1 : S46 → Option Bool) (ent_1 : Rp.Enters Try.prog g1) (hp1 : ∀ a0 r,p1 a0 = some r → FunC Try.prog g1 ([.agg [.i a0.Time,.s a0.Key,.s71 a0.Row]] ++ cs1.map .d) (.b r)) (r : Int) (h : d34 N a0 p1 = some r) : FunC Try.prog 34 [.s46 a0,.fg g1 cs1] (.i r) := by
 unfold d34 at h
 refine FunC.enter 19 [(0,.s46 a0),(1,.fg g1 cs1)] (by simp) Try.func34 rfl (of_decide_eq_true rfl) rfl rfl ?_
 refine .seqR ?_
 refine .rr 1 ?_
 refine .tt [(0,.s46 a0),(1,.fg g1 cs1)] [] (.nil (.seq (.seqR ?_)))
 refine .rr 3 ?_
 refine .tt [(0,.s46 a0),(1,.fg g1 cs1),(7,.i (a0.length : Int)),(8,.i 0)] [] (.nil ?_)
 refine .lastJ (fun (_ : Unit) => mk 19 [] [] []) h ?_ ?_ <;> clear h
 ·intro o h
  refine .block ?_
  refine .iter (fun (v6 : Int) => mk 19 [] [(0,.s46 a0),(1,.fg g1 cs1),(7,.i (a0.length : Int)),(8,.i v6)] []) h Sub.tt ?_
  clear h
  rintro v6 x h
  refine .seqR ?_
  refine .rr 1 ?_
  refine .tt [(0,.s46 a0),(1,.fg g1 cs1),(7,.i (a0.length : Int)),(8,.i v6),(9,.b (decide (v6 < (a0.length : Int))))] [] (.nil (.seq ?_))
  replace h := isome h;rcases h with ⟨c20,h⟩ | ⟨c20,h⟩
  ·have c20_ : decide (v6 < (a0.length : Int)) = true := decide_eq_true c20
   refine .condT rfl c20_ ?_
   refine .skip (thenQ_normal (.seq (.block (.seqR ?_))))
   refine .rr 2 ?_
   refine .tt [(0,.s46 a0),(1,.fg g1 cs1),(5,.i v6),(7,.i (a0.length : Int)),(8,.i v6)] [] (.nil (.seqR ?_))
   replace h := xsome h;obtain ⟨x21,k22,hx21k,hx21,hx21a,hx21b,h⟩ := h
   refine .rk 5 fun K k => ?_;simp [hx21,hx21k,hx21a];refine k ?_
   refine .tt [(0,.s46 a0),(1,.fg g1 cs1),(5,.i v6),(7,.i (a0.length : Int)),(8,.i v6),(11,.fg g1 cs1),(15,.agg [.i x21.Time,.s x21.Key,.s71 x21.Row])] [] ?_
   replace h := bsome h;obtain ⟨r23,hr23,h⟩ := h
   refine .callL (d := 16) (hp1 x21 r23 hr23) (by simp) rfl rfl (by simp <;> rfl) (by simp <;> rfl) ent_1 (by simp <;> rfl) ?_
   refine .st (mk 19 [] [(0,.s46 a0),(1,.fg g1 cs1),(5,.i v6),(7,.i (a0.length : Int)),(8,.i v6),(11,.fg g1 cs1),(15,.agg [.i x21.Time,.s x21.Key,.s71 x21.Row]),(16,.b r23)] []) (.nil ?_)
   replace h := isome h;rcases h with ⟨c24,h⟩ | ⟨c24,h⟩
   ·have c24_ : r23 = true := c24
    refine .condT rfl c24_ ?_
    refine .seqR ?_
    refine .rr 2 ?_
    refine .tt [(4,.i v6)] [] (.nil (.ret ?_))
    cases h
    refine blockQ.ret ?_
    refine thenQ_ps ?_
    refine PostI.os ?_
    rintro rfl
    refine blockQ.ret ?_
    refine PostJ.out (by simp) ?_
    rintro rfl
    refine thenQ_ps ?_
    exact FinC.rs
   have c24_ : r23 = false := Bool.eq_false_iff.2 c24
   refine .condF rfl c24_ ?_
   refine .skip (blockQ.normal (thenQ_normal (.region ?_)))
   replace h := csome h;obtain ⟨v25,hv25,h⟩ := h
   refine .rk 2 fun K k => ?_;simp [hv25];refine k ?_
   refine .tt [(0,.s46 a0),(1,.fg g1 cs1),(7,.i (a0.length : Int)),(8,.i v25)] [] (.nil ?_)
   cases h
   refine PostI.next ?_
   exact Sub.tt
  have c20_ : decide (v6 < (a0.length : Int)) = false := decide_eq_false c20
  refine .condF rfl c20_ ?_
  refine .exit ?_
  cases h
  refine thenQ_ps ?_
  refine PostI.os ?_
  rintro rfl
  refine blockQ.hit (PostJ.next ?_)
  exact Sub.tt
 rintro ⟨⟩ h
 refine thenQ_normal (.seqR ?_)
 refine .rr 1 ?_
 refine .tt [(4,.i (-1))] [] (.nil (.ret ?_))
 cases h
 exact FinC.rs
def d28 (N : Nat) (a0 : (List S46)) (p1 : S46 → Option Bool) : Option Bool :=
 (d34 N a0 p1).bind fun r1 =>
 some (decide (r1 ≥ 0))
theorem p28 (N : Nat) (a0 : (List S46)) (g1 : Nat) (cs1 : List D) (p1 : S46 → Option Bool) (ent_1 : Rp.Enters Try.prog g1) (hp1 : ∀ a0 r,p1 a0 = some r → FunC Try.prog g1 ([.agg [.i a0.Time,.s a0.Key,.s71 a0.Row]] ++ cs1.map .d) (.b r)) (r : Bool) (h : d28 N a0 p1 = some r) : FunC Try.prog 28 [.s46 a0,.fg g1 cs1] (.b r) := by
 unfold d28 at h
 refine FunC.enter 9 [(0,.s46 a0),(1,.fg g1 cs1)] (by simp) Try.func28 rfl (of_decide_eq_true rfl) rfl rfl ?_
 refine .seqR ?_
 refine .rr 1 ?_
 refine .tt [(0,.s46 a0),(1,.fg g1 cs1)] [] (.nil (.seqR ?_))
 refine .rr 2 ?_
 refine .tt [(5,.s46 a0),(6,.fg g1 cs1)] [] ?_
 replace h := bsome h;obtain ⟨r1,hr1,h⟩ := h
 refine .callL (d := 7) (p34 N a0 g1 cs1 p1 ent_1 hp1 r1 hr1) (by simp) rfl rfl (by simp <;> rfl) (by simp <;> rfl) ent34 (by simp <;> rfl) ?_
 refine .st (mk 9 [] [(5,.s46 a0),(6,.fg g1 cs1),(7,.i r1)] []) ?_
 refine .rr 2 ?_
 refine .tt [(4,.b (decide (r1 ≥ 0)))] [] (.nil (.ret ?_))
 cases h
 exact FinC.rs
end Go.Proofs.Ytfdhaigfonolpaa
