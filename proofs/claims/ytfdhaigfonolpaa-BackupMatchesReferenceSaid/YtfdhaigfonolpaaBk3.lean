/- Functions of the program as functional programs; the code computes them. -/
import Derived.Test.YtfdhaigfonolpaaBk2
namespace Go.Proofs.Ytfdhaigfonolpaa
open Go.Ab Go.Rp
attribute [-simp] List.all_eq_true Array.all_toList Array.all_eq_true
def d18 (N : Nat) (a0 : S68) (a1 : Int) : Option (S68 × (List S76) × Int) :=
 if a1 < a0.earliest then (
  some (a0,([] : List S76),21)
 ) else
 Option.bind (α := (Int × (List Int))) (
  iterN (σ := (Int × (List Int) × Int)) (ρ := (Int × (List Int))) (fun ((v7,l8,v9) : (Int × (List Int) × Int)) =>
   if v9 < (a0.backups.length : Int) then (
    (idx a0.backups v9).bind fun x28 =>
    if x28.time ≤ a1 then (
     (chkI (v9 + 1)).bind fun v31 =>
     some (.inl (x28.time,x28.records,v31))
    ) else
    (chkI (v9 + 1)).bind fun v32 =>
    some (.inl (v7,l8,v32))
   ) else
   some (.inr (v7,l8))
  ) N (0,([] : List Int),0)
 ) fun ((v25,l26) : (Int × (List Int))) =>
 Option.bind (α := List S76) (
  iterN (σ := ((List S76) × Int)) (ρ := List S76) (fun ((l40,v41) : ((List S76) × Int)) =>
   if v41 < (l26.length : Int) then (
    (idx l26 v41).bind fun x62 =>
    (idx a0.records x62).bind fun x64 =>
    (d24 N x64.Row).bind fun r66 =>
    (appL 40 l40 [(S76.mk x64.Key r66)]).bind fun _l67 =>
    (chkI (v41 + 1)).bind fun v68 =>
    some (.inl ((l40 ++ [(S76.mk x64.Key r66)]),v68))
   ) else
   some (.inr l40)
  ) N (([] : List S76),0)
 ) fun (l60 : List S76) =>
 Option.bind (α := List S76) (
  iterN (σ := ((List S76) × Int)) (ρ := List S76) (fun ((l114,v115) : ((List S76) × Int)) =>
   if v115 < (a0.changes.length : Int) then (
    Option.bind (α := List S76) (
     (idx a0.changes v115).bind fun x237 =>
     Option.bind (α := Bool) (
      if x237.time ≤ v25 then (
       some true
      ) else
      some (decide (x237.time > a1))
     ) fun (v240 : Bool) =>
     if v240 = true then (
      some l114
     ) else
     (d35 N l114 x237.key (fun b0 b1 => d36 N b0 b1 )).bind fun r243 =>
     Option.bind (α := (Bool × Bool)) (
      if r243.2 = true then (
       some (true,((x237.row.length : Int) == 0))
      ) else
      some (false,false)
     ) fun ((v245,v246) : (Bool × Bool)) =>
     if v246 = true then (
      (chkI (r243.1 + 1)).bind fun v249 =>
      (d38 N l114 r243.1 v249).bind fun l250 =>
      some l250
     ) else
     if v245 = true then (
      (d24 N x237.row).bind fun r252 =>
      (idx l114 r243.1).bind fun x253 =>
      letv (setI l114 r243.1 (S76.mk x253.Key r252)) fun l255 =>
      some l255
     ) else
     if (x237.row.length : Int) > 0 then (
      (d24 N x237.row).bind fun r257 =>
      (d39 N l114 r243.1 ([(S76.mk x237.key r257)] : List S76)).bind fun l258 =>
      some l258
     ) else
     some l114
    ) fun (l236 : List S76) =>
    (chkI (v115 + 1)).bind fun v259 =>
    some (.inl (l236,v259))
   ) else
   some (.inr l114)
  ) N (l60,0)
 ) fun (l212 : List S76) =>
 (d40 N l212).bind fun r260 =>
 some (a0,r260,0)
set_option maxRecDepth 100000 in
set_option maxHeartbeats 4000000 in
theorem p18 (N : Nat) (a0 : S68) (a1 : Int) (r : (S68 × (List S76) × Int)) (h : d18 N a0 a1 = some r) : FunM Try.prog 18 [.ptr 1000 0 0,.i a1] [(1000,some (.box [.ref 25000 0 a0.records.length,.ref 25001 0 a0.refs.length,.ref 25002 0 a0.backups.length,.ref 25003 0 a0.changes.length,.i a0.earliest])),(25000,R76 a0.records),(25001,R3 a0.refs),(25002,R64 a0.backups),(25003,R73 a0.changes)] [1000] (.tup [.s76 r.2.1,.i r.2.2]) ([(1000,(.box [.ref 25000 0 r.1.records.length,.ref 25001 0 r.1.refs.length,.ref 25002 0 r.1.backups.length,.ref 25003 0 r.1.changes.length,.i r.1.earliest])),(25000,(.arr 76 2 (r.1.records.map cS76))),(25001,(.arr 3 1 (r.1.refs.map (cI .i64)))),(25002,(.arr 64 2 (r.1.backups.map cS64))),(25003,(.arr 73 3 (r.1.changes.map cS73)))]) := by
 unfold d18 at h
 refine FunM.enter 133 [(0,.ptr 1000 0 0),(1,.i a1)] Try.func18 rfl (of_decide_eq_true rfl) rfl rfl ?_
 refine .seqR ?_
 refine .rr 2 ?_
 refine .tt [(0,.ptr 1000 0 0),(1,.i a1)] (H1 a0) (.nil (.seq (.seqR ?_)))
 refine .rr 6 ?_
 refine .tt [(0,.ptr 1000 0 0),(1,.i a1),(21,.b (decide (a1 < a0.earliest)))] (H1 a0) (.nil ?_)
 replace h := isome h;rcases h with ⟨c1,h⟩ | ⟨c1,h⟩
 ·have c1_ : decide (a1 < a0.earliest) = true := decide_eq_true c1
  refine .condT rfl c1_ ?_
  refine .seqR ?_
  refine .rr 2 ?_
  refine .tt [(4,.z),(5,.i 21)] (H1 a0) (.nil ?_)
  refine .sub (.wk 4 rfl) ?_
  refine .st (mk 133 [1000] [(4,.s76 ([] : List S76)),(5,.i 21)] (H1 a0)) (.ret ?_)
  cases h
  refine thenQ_ps ?_
  exact FinF.ret (by simp) (by simp)
 have c1_ : decide (a1 < a0.earliest) = false := decide_eq_false c1
 refine .condF rfl c1_ ?_
 refine .skip (thenQ_normal (.seqR ?_))
 refine .rr 1 ?_
 refine .tt [(0,.ptr 1000 0 0),(1,.i a1),(6,.ptr 6 0 0)] (H13 a0) (.nil (.seq (.seqR ?_)))
 refine .rr 6 ?_
 refine .tt (L6 a1 ++ [(25,.ref 25002 0 a0.backups.length),(26,.i (a0.backups.length : Int)),(27,.i 0)]) (H13 a0) (.nil ?_)
 refine .lastN (fun ((v25,l26) : (Int × (List Int))) => mk 133 [1000] [(0,.ptr 1000 0 0),(1,.i a1),(6,.ptr 6 0 0)] (H10 v25 l26 a0)) h ?_ ?_ <;> clear h
 ·intro o h
  refine .block ?_
  refine .iter (fun ((v7,l8,v9) : (Int × (List Int) × Int)) => mk 133 [1000] (L7 a1 a0.backups.length v9) (H10 v7 l8 a0)) h (Sub.trans (Sub.wkCell (bid := 6) (j := 1) rfl rfl) (by simp;exact Sub.tt)) ?_
  clear h
  rintro ⟨v7,l8,v9⟩ x h
  dsimp only at h ⊢
  refine .seqR ?_
  refine .rr 1 ?_
  refine .tt (L7 a1 a0.backups.length v9 ++ [(28,.b (decide (v9 < (a0.backups.length : Int))))]) (H10 v7 l8 a0) (.nil (.seq ?_))
  replace h := isome h;rcases h with ⟨c27,h⟩ | ⟨c27,h⟩
  ·have c27_ : decide (v9 < (a0.backups.length : Int)) = true := decide_eq_true c27
   refine .condT rfl c27_ ?_
   refine .skip (thenQ_normal (.seq (.block (.seqR ?_))))
   replace h := xsome h;obtain ⟨x28,k29,hx28k,hx28,hx28a,hx28b,h⟩ := h
   refine .rk 4 fun K k => ?_;simp [hx28,hx28k,hx28a,hx28b];refine k ?_
   refine .tt (L6 a1 ++ [(8,.ptr 8 0 0),(25,.ref 25002 0 a0.backups.length),(26,.i (a0.backups.length : Int)),(27,.i v9)]) (H14 v7 l8 x28 a0) (.nil (.seqR ?_))
   refine .rr 4 ?_
   refine .tt (L6 a1 ++ [(8,.ptr 8 0 0),(25,.ref 25002 0 a0.backups.length),(26,.i (a0.backups.length : Int)),(27,.i v9),(34,.b (decide (x28.time ≤ a1)))]) (H14 v7 l8 x28 a0) (.nil ?_)
   replace h := isome h;rcases h with ⟨c30,h⟩ | ⟨c30,h⟩
   ·have c30_ : decide (x28.time ≤ a1) = true := decide_eq_true c30
    refine .condT rfl c30_ ?_
    refine .region ?_
    refine .rr 2 ?_
    refine .tt (L7 a1 a0.backups.length v9) (H15 x28 a0) (.nil (blockQ.normal (thenQ_normal (.region ?_))))
    replace h := csome h;obtain ⟨v31,hv31,h⟩ := h
    refine .rk 2 fun K k => ?_;simp [hv31];refine k ?_
    refine .tt (L7 a1 a0.backups.length v31) (H15 x28 a0) (.nil ?_)
    cases h
    refine PostI.next ?_
    exact Sub.tt
   have c30_ : decide (x28.time ≤ a1) = false := decide_eq_false c30
   refine .condF rfl c30_ ?_
   refine .skip (blockQ.normal (thenQ_normal (.region ?_)))
   replace h := csome h;obtain ⟨v32,hv32,h⟩ := h
   refine .rk 2 fun K k => ?_;simp [hv32];refine k ?_
   refine .tt (L7 a1 a0.backups.length v32) (H10 v7 l8 a0) (.nil ?_)
   cases h
   refine PostI.next ?_
   exact Sub.tt
  have c27_ : decide (v9 < (a0.backups.length : Int)) = false := decide_eq_false c27
  refine .condF rfl c27_ ?_
  refine .exit ?_
  cases h
  refine thenQ_ps ?_
  refine PostI.os ?_
  rintro rfl
  refine blockQ.hit (PostN.next ?_)
  exact Sub.tt
 rintro ⟨v25,l26⟩ h
 dsimp only at h ⊢
 refine thenQ_normal (.seqR ?_)
 refine .rr 1 ?_
 refine .tt (L6 a1 ++ [(9,.z)]) (H10 v25 l26 a0) (.nil (.seq (.seqR ?_)))
 refine .rr 4 ?_
 refine .tt (L6 a1 ++ [(9,.z),(38,.si l26),(39,.i (l26.length : Int)),(40,.i 0)]) (H10 v25 l26 a0) (.nil ?_)
 refine .lastN (fun (l60 : List S76) => mk 133 [1000] (L8 a1 l60.length) (H5 v25 l26 l60 a0)) h ?_ ?_ <;> clear h
 ·intro o h
  refine .block ?_
  refine .iter (fun ((l40,v41) : ((List S76) × Int)) => mk 133 [1000] (L8 a1 l40.length ++ [(38,.si l26),(39,.i (l26.length : Int)),(40,.i v41)]) (H5 v25 l26 l40 a0)) h (Sub.trans (Sub.nilOwn (t := 9) (id := 64) (T := 76) (n := 2) rfl rfl (by decide)) (by simp;exact Sub.tt)) ?_
  clear h
  rintro ⟨l40,v41⟩ x h
  dsimp only at h ⊢
  refine .seqR ?_
  refine .rr 1 ?_
  refine .tt (L8 a1 l40.length ++ [(38,.si l26),(39,.i (l26.length : Int)),(40,.i v41),(41,.b (decide (v41 < (l26.length : Int))))]) (H5 v25 l26 l40 a0) (.nil (.seq ?_))
  replace h := isome h;rcases h with ⟨c61,h⟩ | ⟨c61,h⟩
  ·have c61_ : decide (v41 < (l26.length : Int)) = true := decide_eq_true c61
   refine .condT rfl c61_ ?_
   refine .skip (thenQ_normal (.seq (.block (.seqR ?_))))
   replace h := xsome h;obtain ⟨x62,k63,hx62k,hx62,hx62a,hx62b,h⟩ := h
   refine .rk 3 fun K k => ?_;simp [hx62,hx62k,hx62a];refine k ?_
   refine .tt (L8 a1 l40.length ++ [(11,.i x62),(38,.si l26),(39,.i (l26.length : Int)),(40,.i v41)]) (H5 v25 l26 l40 a0) (.nil ?_)
   replace h := xsome h;obtain ⟨x64,k65,hx64k,hx64,hx64a,hx64b,h⟩ := h
   replace h := bsome h;obtain ⟨r66,hr66,h⟩ := h
   replace h := bsome h;obtain ⟨l67,hl67,h⟩ := h
   obtain ⟨hl67a,hl67⟩ := appL_some hl67
   subst hl67
   try simp only [List.length_cons,List.length_nil,Nat.zero_add] at hl67a
   refine .lastAnyS [[],[],[1],[1,2],[1,2,3],[],[1,2,3,4,5],[1,2,3,4,5,6],[1,2,3,4,5,6,7],[],[9],[9,10],[9,10,11],[],[9,10,11,12,13],[9,10,11,12,13,14],[9,10,11,12,13,14,15],[9,10,11,12,13,14,15,16],[1,2,3,4,5,6,7,8,9,10,11,12,13,14,15,16,17],[1,2,3,4,5,6,7,8,9,10,11,12,13,14,15,16,17,18],[0,1,2,3,4,5,6,7,8,9,10,11,12,13,14,15,16,17,18,19],[0,1,2,3,4,5,6,7,8,9,10,11,12,13,14,15,16,17,18,19,20]] (fun (b : Nat → Bool) => mk 133 [1000] [(0,.ptr 1000 0 0),(1,.i a1),(6,.ptr 6 0 0),(9,(if b 21 then .ref 64 0 ((l40 ++ [(S76.mk x64.Key r66)]).length) else (if b 20 then .junk else .ref 64 0 l40.length))),(11,.i x62),(38,.si l26),(39,.i (l26.length : Int)),(40,.i v41),(44,(if b 20 then .junk else (if b 0 then .ref 64 0 l40.length else .junk))),(45,(if b 1 then .ptr 1000 0 0 else .junk)),(46,(if b 2 then .ptr 1000 0 0 else .junk)),(47,(if b 3 then .ptr 1000 0 0 else .junk)),(48,(if b 4 then .ref 25000 0 a0.records.length else .junk)),(49,(if b 5 then .i x62 else .junk)),(50,(if b 6 then .ptr 25000 k65 0 else .junk)),(51,(if b 7 then .ptr 25000 k65 0 else .junk)),(52,(if b 8 then .s x64.Key else .junk)),(53,(if b 9 then .ptr 1000 0 0 else .junk)),(54,(if b 10 then .ptr 1000 0 0 else .junk)),(55,(if b 11 then .ptr 1000 0 0 else .junk)),(56,(if b 12 then .ref 25000 0 a0.records.length else .junk)),(57,(if b 13 then .i x62 else .junk)),(58,(if b 14 then .ptr 25000 k65 0 else .junk)),(59,(if b 15 then .ptr 25000 k65 1 else .junk)),(60,(if b 16 then .s71 x64.Row else .junk)),(61,(if b 17 then .s71 r66 else .junk)),(62,(if b 18 then .agg [.s x64.Key,.s71 r66] else .junk)),(63,(if b 19 then .d (.sl ([(S76.mk x64.Key r66)].map cS76)) else .junk)),(64,(if b 20 then .ref 64 0 ((l40 ++ [(S76.mk x64.Key r66)]).length) else .junk))] [(6,some (.box [.i v25,.si l26])),(64,(if b 20 then R76 (l40 ++ [(S76.mk x64.Key r66)]) else R76 l40)),(1000,some (.box [.ref 25000 0 a0.records.length,.ref 25001 0 a0.refs.length,.ref 25002 0 a0.backups.length,.ref 25003 0 a0.changes.length,.i a0.earliest])),(25000,R76 a0.records),(25001,R3 a0.refs),(25002,R64 a0.backups),(25003,R73 a0.changes)]) (mk 133 [1000] (L6 a1 ++ [(9,.ref 64 0 ((l40 ++ [(S76.mk x64.Key r66)]).length)),(38,.si l26),(39,.i (l26.length : Int)),(40,.i v41)]) [(6,some (.box [.i v25,.si l26])),(64,R76 (l40 ++ [(S76.mk x64.Key r66)])),(1000,some (.box [.ref 25000 0 a0.records.length,.ref 25001 0 a0.refs.length,.ref 25002 0 a0.backups.length,.ref 25003 0 a0.changes.length,.i a0.earliest])),(25000,R76 a0.records),(25001,R3 a0.refs),(25002,R64 a0.backups),(25003,R73 a0.changes)]) (by kernel_rfl) (by kernel_rfl) Sub.tt (Steps.cons ?_ (Steps.cons ?_ (Steps.cons ?_ (Steps.cons ?_ (Steps.cons ?_ (Steps.cons ?_ (Steps.cons ?_ (Steps.cons ?_ (Steps.cons ?_ (Steps.cons ?_ (Steps.cons ?_ (Steps.cons ?_ (Steps.cons ?_ (Steps.cons ?_ (Steps.cons ?_ (Steps.cons ?_ (Steps.cons ?_ (Steps.cons ?_ (Steps.cons ?_ (Steps.cons ?_ (Steps.cons ?_ (Steps.cons ?_ (Steps.nil))))))))))))))))))))))) ?_ ?_
   iterate 17
    ·intro b h0 ha hd
     have T := fct h0 ha hd;simp at T
     refine .runK [63] 1 fun K k => ?_;simp [T,hx64,hx64k,hx64a,hx64b];refine k _ _ ?_;clear k K
     exact .nil .tT
   ·intro b h0 ha hd
    have T := fct h0 ha hd;simp at T
    simp only [T,if_true,if_false,Bool.false_eq_true]
    refine .callC (d := 61) (p24 N x64.Row r66 hr66) (by simp) rfl rfl (by simp <;> rfl) (by simp <;> rfl) ent24 (by simp) (.inl ⟨by simp,by simp⟩) ?_
    exact .nil (by simp [T];exact Sub.tT)
   iterate 2
    ·intro b h0 ha hd
     have T := fct h0 ha hd;simp at T
     refine .runK [63] 1 fun K k => ?_;simp [T];refine k _ _ ?_;clear k K
     exact .nil .tT
   iterate 2
    ·intro b h0 ha hd
     have T := fct h0 ha hd;simp at T
     refine .runK [63] 1 fun K k => ?_;simp [T,hl67a];refine k _ _ ?_;clear k K
     exact .nil .tT
   ·intro b hb
    have T := FA_of (n := 22) hb;simp at T
    exact Sub.tT
   skip
   refine blockQ.normal (thenQ_normal (.region ?_))
   replace h := csome h;obtain ⟨v68,hv68,h⟩ := h
   refine .rk 2 fun K k => ?_;simp [hv68];refine k ?_
   refine .tt (L6 a1 ++ [(9,.ref 64 0 ((l40 ++ [(S76.mk x64.Key r66)]).length)),(38,.si l26),(39,.i (l26.length : Int)),(40,.i v68)]) [(6,some (.box [.i v25,.si l26])),(64,R76 (l40 ++ [(S76.mk x64.Key r66)])),(1000,some (.box [.ref 25000 0 a0.records.length,.ref 25001 0 a0.refs.length,.ref 25002 0 a0.backups.length,.ref 25003 0 a0.changes.length,.i a0.earliest])),(25000,R76 a0.records),(25001,R3 a0.refs),(25002,R64 a0.backups),(25003,R73 a0.changes)] (.nil ?_)
   cases h
   refine PostI.next ?_
   exact Sub.tt
  have c61_ : decide (v41 < (l26.length : Int)) = false := decide_eq_false c61
  refine .condF rfl c61_ ?_
  refine .exit ?_
  cases h
  refine thenQ_ps ?_
  refine PostI.os ?_
  rintro rfl
  refine blockQ.hit (PostN.next ?_)
  exact Sub.tt
 rintro l60 h
 refine thenQ_normal (.seq (.seqR ?_))
 refine .rr 6 ?_
 refine .tt [(1,.i a1),(6,.ptr 6 0 0),(9,.ref 64 0 l60.length),(69,.ref 25003 0 a0.changes.length),(70,.i (a0.changes.length : Int)),(71,.i 0)] (H5 v25 l26 l60 a0) (.nil ?_)
 refine .lastN (fun (l212 : List S76) => mk 133 [1000] [(9,.ref 64 0 l212.length)] (H16 l212 a0)) h ?_ ?_ <;> clear h
 ·intro o h
  refine .block ?_
  refine .iter (fun ((l114,v115) : ((List S76) × Int)) => mk 133 [1000] (L9 a1 l114.length a0.changes.length v115) (H5 v25 l26 l114 a0)) h Sub.tt ?_
  clear h
  rintro ⟨l114,v115⟩ x h
  dsimp only at h ⊢
  refine .seqR ?_
  refine .rr 1 ?_
  refine .tt (L9 a1 l114.length a0.changes.length v115 ++ [(72,.b (decide (v115 < (a0.changes.length : Int))))]) (H5 v25 l26 l114 a0) (.nil (.seq ?_))
  replace h := isome h;rcases h with ⟨c213,h⟩ | ⟨c213,h⟩
  ·have c213_ : decide (v115 < (a0.changes.length : Int)) = true := decide_eq_true c213
   refine .condT rfl c213_ ?_
   refine .skip (thenQ_normal ?_)
   refine .seqN (fun (l236 : List S76) => mk 133 [1000] (L9 a1 l236.length a0.changes.length v115) (H5 v25 l26 l236 a0)) h ?_ ?_ <;> clear h
   ·intro o h
    refine .block (.seqR ?_)
    replace h := xsome h;obtain ⟨x237,k238,hx237k,hx237,hx237a,hx237b,h⟩ := h
    refine .rk 4 fun K k => ?_;simp [hx237,hx237k,hx237a,hx237b];refine k ?_
    refine .tt (L10 a1 l114.length a0.changes.length v115) (H3 v25 l26 x237 l114 a0) (.nil (.seq ?_))
    replace h := bsome h;obtain ⟨v240,hj,h⟩ := h
    refine .cutR (mk 133 [1000] (L10 a1 l114.length a0.changes.length v115 ++ [(85,.b v240)]) (H3 v25 l26 x237 l114 a0)) ?_ ?_
    ·clear h;have h := hj;clear hj
     refine .rr 6 ?_
     refine .tt (L10 a1 l114.length a0.changes.length v115 ++ [(80,.b (decide (x237.time ≤ v25)))]) (H3 v25 l26 x237 l114 a0) ?_
     replace h := isome h;rcases h with ⟨c241,h⟩ | ⟨c241,h⟩
     ·have c241_ : decide (x237.time ≤ v25) = true := decide_eq_true c241
      refine .sub (.bool 80 rfl c241_) ?_
      refine .st (mk 133 [1000] (L10 a1 l114.length a0.changes.length v115 ++ [(80,.b true)]) (H3 v25 l26 x237 l114 a0)) ?_
      refine .rr 5 ?_
      refine .tt (L10 a1 l114.length a0.changes.length v115 ++ [(81,.tup []),(82,.tup []),(83,.tup []),(84,.tup []),(85,.b true)]) (H3 v25 l26 x237 l114 a0) ?_
      cases h
      exact .nil .tt
     have c241_ : decide (x237.time ≤ v25) = false := decide_eq_false c241
     refine .sub (.bool 80 rfl c241_) ?_
     refine .st (mk 133 [1000] (L10 a1 l114.length a0.changes.length v115 ++ [(80,.b false)]) (H3 v25 l26 x237 l114 a0)) ?_
     refine .rr 5 ?_
     refine .tt (L10 a1 l114.length a0.changes.length v115 ++ [(81,.ptr 13 0 0),(82,.i x237.time),(83,.i a1),(84,.b (decide (x237.time > a1))),(85,.b (decide (x237.time > a1)))]) (H3 v25 l26 x237 l114 a0) ?_
     cases h
     exact .nil .tt
    clear hj
    replace h := isome h;rcases h with ⟨c242,h⟩ | ⟨c242,h⟩
    ·have c242_ : v240 = true := c242
     refine .condT rfl c242_ ?_
     refine .exit ?_
     cases h
     refine thenQ_ps ?_
     refine blockQ.hit (PostN.next ?_)
     exact Sub.tt
    have c242_ : v240 = false := Bool.eq_false_iff.2 c242
    refine .condF rfl c242_ ?_
    refine .skip (thenQ_normal (.seqR ?_))
    refine .rr 3 ?_
    refine .tt (L10 a1 l114.length a0.changes.length v115 ++ [(87,.ref 64 0 l114.length),(89,.s x237.key)]) (H3 v25 l26 x237 l114 a0) ?_
    replace h := bsome h;obtain ⟨r243,hr243,h⟩ := h
    refine .callL (d := 90) (FunC.argsF (args := [.s76 l114,.s x237.key,.d (.lit (.func (.func 36) #[] #[]))]) (p35 N l114 x237.key 36 [] (fun b0 b1 => d36 N b0 b1 ) ent36 (fun b0 b1 r h => p36 N b0 b1  r h) r243 hr243) (by simp [V.wf]) rfl) (by simp) rfl rfl (by simp <;> rfl) (by simp <;> rfl) ent35 (by simp <;> rfl) ?_
    refine .st (mk 133 [1000] (L10 a1 l114.length a0.changes.length v115 ++ [(87,.ref 64 0 l114.length),(89,.s x237.key),(90,.tup [.i r243.1,.b r243.2])]) (H3 v25 l26 x237 l114 a0)) ?_
    refine .rr 5 ?_
    refine .tt (L11 a1 l114.length r243.1 r243.2 a0.changes.length v115) (H3 v25 l26 x237 l114 a0) (.nil (.block ?_))
    replace h := bsome h;obtain ⟨⟨v245,v246⟩,hj,h⟩ := h
    dsimp only at h
    refine .cutR (mk 133 [1000] (L11 a1 l114.length r243.1 v245 a0.changes.length v115 ++ [(93,.b v246)]) (H3 v25 l26 x237 l114 a0)) ?_ ?_
    ·clear h;have h := hj;clear hj
     refine .rr 2 ?_
     refine .tt (L11 a1 l114.length r243.1 r243.2 a0.changes.length v115 ++ [(95,.b r243.2)]) (H3 v25 l26 x237 l114 a0) ?_
     replace h := isome h;rcases h with ⟨c247,h⟩ | ⟨c247,h⟩
     ·have c247_ : r243.2 = true := c247
      refine .sub (.bool 15 rfl c247_) ?_
      refine .sub (.bool 95 rfl c247_) ?_
      refine .st (mk 133 [1000] (L12 a1 l114.length r243.1 ++ [(15,.b true),(69,.ref 25003 0 a0.changes.length),(70,.i (a0.changes.length : Int)),(71,.i v115),(95,.b true)]) (H3 v25 l26 x237 l114 a0)) ?_
      refine .rr 6 ?_
      refine .tt (L12 a1 l114.length r243.1 ++ [(15,.b true),(69,.ref 25003 0 a0.changes.length),(70,.i (a0.changes.length : Int)),(71,.i v115),(93,.b ((x237.row.length : Int) == 0)),(96,.ptr 13 0 2),(97,.s71 x237.row),(98,.i (x237.row.length : Int)),(99,.b ((x237.row.length : Int) == 0))]) (H3 v25 l26 x237 l114 a0) ?_
      cases h
      exact .nil .tt
     have c247_ : r243.2 = false := Bool.eq_false_iff.2 c247
     refine .sub (.bool 15 rfl c247_) ?_
     refine .sub (.bool 95 rfl c247_) ?_
     refine .st (mk 133 [1000] (L12 a1 l114.length r243.1 ++ [(15,.b false),(69,.ref 25003 0 a0.changes.length),(70,.i (a0.changes.length : Int)),(71,.i v115),(95,.b false)]) (H3 v25 l26 x237 l114 a0)) ?_
     refine .rr 6 ?_
     refine .tt (L12 a1 l114.length r243.1 ++ [(15,.b false),(69,.ref 25003 0 a0.changes.length),(70,.i (a0.changes.length : Int)),(71,.i v115),(93,.b false),(96,.tup []),(97,.tup []),(98,.tup []),(99,.tup [])]) (H3 v25 l26 x237 l114 a0) ?_
     cases h
     exact .nil .tt
    clear hj
    replace h := isome h;rcases h with ⟨c248,h⟩ | ⟨c248,h⟩
    ·have c248_ : v246 = true := c248
     refine .condT rfl c248_ ?_
     refine .region ?_
     replace h := csome h;obtain ⟨v249,hv249,h⟩ := h
     refine .rk 4 fun K k => ?_;simp [hv249];refine k ?_
     refine .tt [(1,.i a1),(6,.ptr 6 0 0),(69,.ref 25003 0 a0.changes.length),(70,.i (a0.changes.length : Int)),(71,.i v115),(101,.ref 64 0 l114.length),(102,.i r243.1),(104,.i v249)] (H5 v25 l26 l114 a0) ?_
     replace h := bsome h;obtain ⟨l250,hl250,h⟩ := h
     refine .callF (p38 N l114 r243.1 v249 l250 hl250) [(64,1000)] [] [(1000,64)] [(64,.arr 76 2 (l250.map cS76))] (.ref 64 0 l250.length) (by simp) rfl (by simp <;> rfl) (by simp) (by simp) (by simp) (by simp) (by simp) ent38 (by simp) (by simp) (by simp) (by simp) (by simp) (by simp) ?_
     refine .st (mk 133 [1000] [(1,.i a1),(6,.ptr 6 0 0),(69,.ref 25003 0 a0.changes.length),(70,.i (a0.changes.length : Int)),(71,.i v115),(102,.i r243.1),(104,.i v249),(105,.ref 64 0 l250.length)] (H5 v25 l26 l250 a0)) ?_
     refine .rr 1 ?_
     refine .tt (L9 a1 l250.length a0.changes.length v115) (H5 v25 l26 l250 a0) (.nil ?_)
     cases h
     refine blockQ.normal (blockQ.normal (PostN.next ?_))
     exact Sub.tt
    have c248_ : v246 = false := Bool.eq_false_iff.2 c248
    refine .condF rfl c248_ ?_
    refine .seqR ?_
    refine .rr 2 ?_
    refine .tt (L12 a1 l114.length r243.1 ++ [(69,.ref 25003 0 a0.changes.length),(70,.i (a0.changes.length : Int)),(71,.i v115),(106,.b v245)]) (H3 v25 l26 x237 l114 a0) (.nil ?_)
    replace h := isome h;rcases h with ⟨c251,h⟩ | ⟨c251,h⟩
    ·have c251_ : v245 = true := c251
     refine .condT rfl c251_ ?_
     refine .region ?_
     refine .rr 4 ?_
     refine .tt (L9 a1 l114.length a0.changes.length v115 ++ [(108,.ref 64 0 l114.length),(109,.i r243.1),(111,.s71 x237.row)]) (H5 v25 l26 l114 a0) ?_
     replace h := bsome h;obtain ⟨r252,hr252,h⟩ := h
     refine .callC (d := 112) (p24 N x237.row r252 hr252) (by simp) rfl rfl (by simp <;> rfl) (by simp <;> rfl) ent24 (by simp) (.inl ⟨by simp,by simp⟩) ?_
     refine .st (mk 133 [1000] (L9 a1 l114.length a0.changes.length v115 ++ [(108,.ref 64 0 l114.length),(109,.i r243.1),(111,.s71 x237.row),(112,.s71 r252)]) (H5 v25 l26 l114 a0)) ?_
     replace h := xsome h;obtain ⟨x253,k254,hx253k,hx253,hx253a,hx253b,h⟩ := h
     replace h := lsome h;obtain ⟨l255,gl255,h⟩ := h
     obtain ⟨hl255,hl255n⟩ := setI_some cS76 gl255 hx253k
     replace hl255 : (l114.map cS76).set k254 [.lit (.string x253.Key),.sl (r252.map cS71)] = l255.map cS76 := hl255
     clear gl255
     refine .rk 3 fun K k => ?_;simp [hx253,hx253k,hx253a,hx253b,hl255];refine k ?_
     refine .sub (S' := mk 133 [1000] (L9 a1 l255.length a0.changes.length v115) (H5 v25 l26 l255 a0)) (Sub.table (by simp [hl255n]) (by simp)) ?_
     refine .nil ?_
     cases h
     refine blockQ.normal (blockQ.normal (PostN.next ?_))
     exact Sub.tt
    have c251_ : v245 = false := Bool.eq_false_iff.2 c251
    refine .condF rfl c251_ ?_
    refine .seqR ?_
    refine .rr 5 ?_
    refine .tt (L12 a1 l114.length r243.1 ++ [(69,.ref 25003 0 a0.changes.length),(70,.i (a0.changes.length : Int)),(71,.i v115),(115,.b (decide ((x237.row.length : Int) > 0)))]) (H3 v25 l26 x237 l114 a0) (.nil ?_)
    replace h := isome h;rcases h with ⟨c256,h⟩ | ⟨c256,h⟩
    ·have c256_ : decide ((x237.row.length : Int) > 0) = true := decide_eq_true c256
     refine .condT rfl c256_ ?_
     replace h := bsome h;obtain ⟨r257,hr257,h⟩ := h
     replace h := bsome h;obtain ⟨l258,hl258,h⟩ := h
     refine .lastAnyS [[],[],[],[2],[],[4],[4,5],[2,3,4,5,6],[2,3,4,5,6,7],[0,1,2,3,4,5,6,7,8],[0,1,2,3,4,5,6,7,8,9]] (fun (b : Nat → Bool) => mk 133 [1000] [(1,.i a1),(6,.ptr 6 0 0),(9,(if b 10 then .ref 64 0 l258.length else (if b 9 then .junk else .ref 64 0 l114.length))),(13,.ptr 13 0 0),(14,.i r243.1),(69,.ref 25003 0 a0.changes.length),(70,.i (a0.changes.length : Int)),(71,.i v115),(120,(if b 9 then .junk else (if b 0 then .ref 64 0 l114.length else .junk))),(121,(if b 1 then .i r243.1 else .junk)),(122,(if b 2 then .ptr 13 0 1 else .junk)),(123,(if b 3 then .s x237.key else .junk)),(124,(if b 4 then .ptr 13 0 2 else .junk)),(125,(if b 5 then .s71 x237.row else .junk)),(126,(if b 6 then .s71 r257 else .junk)),(127,(if b 7 then .agg [.s x237.key,.s71 r257] else .junk)),(128,(if b 8 then .ref 128 0 (([(S76.mk x237.key r257)] : List S76).length) else .junk)),(129,(if b 9 then .ref 64 0 l258.length else .junk))] [(6,some (.box [.i v25,.si l26])),(13,some (.box [.i x237.time,.s x237.key,.s71 x237.row])),(64,(if b 9 then R76 l258 else R76 l114)),(128,(if b 9 then none else (if b 8 then R76 ([(S76.mk x237.key r257)] : List S76) else none))),(1000,some (.box [.ref 25000 0 a0.records.length,.ref 25001 0 a0.refs.length,.ref 25002 0 a0.backups.length,.ref 25003 0 a0.changes.length,.i a0.earliest])),(25000,R76 a0.records),(25001,R3 a0.refs),(25002,R64 a0.backups),(25003,R73 a0.changes)]) (mk 133 [1000] (L9 a1 l258.length a0.changes.length v115) (H5 v25 l26 l258 a0)) (by kernel_rfl) (by kernel_rfl) Sub.tt (Steps.cons ?_ (Steps.cons ?_ (Steps.cons ?_ (Steps.cons ?_ (Steps.cons ?_ (Steps.cons ?_ (Steps.cons ?_ (Steps.cons ?_ (Steps.cons ?_ (Steps.cons ?_ (Steps.cons ?_ (Steps.nil)))))))))))) ?_ ?_
     iterate 6
      ·intro b h0 ha hd
       have T := fct h0 ha hd;simp at T
       refine .rk 1 fun K k => ?_;simp [T];refine k ?_
       exact .nil .tT
     ·intro b h0 ha hd
      have T := fct h0 ha hd;simp at T
      simp only [T,if_true,if_false,Bool.false_eq_true]
      refine .callC (d := 126) (p24 N x237.row r257 hr257) (by simp) rfl rfl (by simp <;> rfl) (by simp <;> rfl) ent24 (by simp) (.inl ⟨by simp,by simp⟩) ?_
      exact .nil (by simp [T];exact Sub.tT)
     iterate 2
      ·intro b h0 ha hd
       have T := fct h0 ha hd;simp at T
       refine .rk 1 fun K k => ?_;simp [T];refine k ?_
       exact .nil .tT
     ·intro b h0 ha hd
      have T := fct h0 ha hd;simp at T
      simp only [T,if_true,if_false,Bool.false_eq_true]
      refine .callF (p39 N l114 r243.1 ([(S76.mk x237.key r257)] : List S76) l258 hl258) [(64,1000),(128,1001)] [] [(1000,64)] [(64,.arr 76 2 (l258.map cS76))] (.ref 64 0 l258.length) (by simp) rfl (by simp <;> rfl) (by simp) (by simp) (by simp) (by simp) (by simp) ent39 (by simp) (by simp) (by simp) (by simp) (by simp) (by simp) ?_
      exact .nil (by simp [T];exact Sub.tT)
     ·intro b h0 ha hd
      have T := fct h0 ha hd;simp at T
      refine .rk 1 fun K k => ?_;simp [T];refine k ?_
      exact .nil .tT
     ·intro b hb
      have T := FA_of (n := 11) hb;simp at T
      exact Sub.tT
     skip
     cases h
     refine blockQ.normal (blockQ.normal (PostN.next ?_))
     exact Sub.tt
    have c256_ : decide ((x237.row.length : Int) > 0) = false := decide_eq_false c256
    refine .condF rfl c256_ ?_
    refine .skip ?_
    cases h
    refine blockQ.normal (blockQ.normal (PostN.next ?_))
    exact Sub.tt
   rintro l236 h
   refine .region ?_
   replace h := csome h;obtain ⟨v259,hv259,h⟩ := h
   refine .rk 2 fun K k => ?_;simp [hv259];refine k ?_
   refine .tt (L9 a1 l236.length a0.changes.length v259) (H5 v25 l26 l236 a0) (.nil ?_)
   cases h
   refine PostI.next ?_
   exact Sub.tt
  have c213_ : decide (v115 < (a0.changes.length : Int)) = false := decide_eq_false c213
  refine .condF rfl c213_ ?_
  refine .exit ?_
  cases h
  refine thenQ_ps ?_
  refine PostI.os ?_
  rintro rfl
  refine blockQ.hit (PostN.next ?_)
  exact Sub.tt
 rintro l212 h
 refine thenQ_normal (.seqR ?_)
 refine .rr 1 ?_
 refine .tt [(131,.ref 64 0 l212.length)] (H16 l212 a0) ?_
 refine .sub (.freeze 64 rfl) ?_
 refine .st (mk 133 [1000] [(131,.s76 l212)] (H1 a0)) ?_
 replace h := bsome h;obtain ⟨r260,hr260,h⟩ := h
 refine .callC (d := 132) (p40 N l212 r260 hr260) (by simp) rfl rfl (by simp <;> rfl) (by simp <;> rfl) ent40 (by simp) (.inl ⟨by simp,by simp⟩) ?_
 refine .st (mk 133 [1000] [(131,.s76 l212),(132,.s76 r260)] (H1 a0)) ?_
 refine .rr 2 ?_
 refine .tt [(4,.s76 r260),(5,.i 0)] (H1 a0) (.nil (.ret ?_))
 cases h
 exact FinF.ret (by simp) (by simp)
end Go.Proofs.Ytfdhaigfonolpaa
