/- Functions of the program as functional programs; the code computes them. -/
import Derived.Test.YtfdhaigfonolpaaBk8
namespace Go.Proofs.Ytfdhaigfonolpaa
open Go.Ab Go.Rp
attribute [-simp] List.all_eq_true Array.all_toList Array.all_eq_true
def d14 (N : Nat) (a0 : S68) (a1 : Int) : Option (S68 × Int) :=
 Option.bind (α := Bool) (
  if a1 < 0 then (
   some true
  ) else
  some (decide (a1 > 1099511627776))
 ) fun (v2 : Bool) =>
 if v2 = true then (
  some (a0,1)
 ) else
 Option.bind (α := Int) (
  iterN (σ := Int) (ρ := Int) (fun (v16 : Int) =>
   Option.bind (α := Bool) (
    (chkI (v16 + 1)).bind fun v51 =>
    if v51 < (a0.backups.length : Int) then (
     (chkI (v16 + 1)).bind fun v53 =>
     (idx a0.backups v53).bind fun x54 =>
     some (decide (x54.time ≤ a1))
    ) else
    some false
   ) fun (v50 : Bool) =>
   if v50 = true then (
    (chkI (v16 + 1)).bind fun v57 =>
    some (.inl v57)
   ) else
   some (.inr v16)
  ) N 0
 ) fun (v44 : Int) =>
 (natI v44 a0.backups.length).bind fun n58 =>
 Option.bind (α := ((List S76) × (List Int))) (
  iterN (σ := ((List S76) × (List Int) × Int)) (ρ := ((List S76) × (List Int))) (fun ((l122,l123,v124) : ((List S76) × (List Int) × Int)) =>
   if v124 < (n58 : Int) then (
    (idx (a0.backups.take n58) v124).bind fun x257 =>
    Option.bind (α := ((List S76) × (List Int))) (
     iterN (σ := ((List S76) × (List Int) × Int)) (ρ := ((List S76) × (List Int))) (fun ((l271,l272,v273) : ((List S76) × (List Int) × Int)) =>
      if v273 < (x257.records.length : Int) then (
       (idx x257.records v273).bind fun x306 =>
       (idx l272 x306).bind fun x308 =>
       (chkI (x308 - 1)).bind fun v310 =>
       letv (setI l272 x306 v310) fun l311 =>
       (idx l311 x306).bind fun x312 =>
       if (x312 == 0) then (
        (idx l271 x306).bind fun _x314 =>
        letv (setI l271 x306 (S76.mk (ByteArray.mk #[]) ([] : List S71))) fun l315 =>
        (chkI (v273 + 1)).bind fun v316 =>
        some (.inl (l315,l311,v316))
       ) else
       (chkI (v273 + 1)).bind fun v317 =>
       some (.inl (l271,l311,v317))
      ) else
      some (.inr (l271,l272))
     ) N (l122,l123,0)
    ) fun ((l303,l304) : ((List S76) × (List Int))) =>
    (chkI (v124 + 1)).bind fun v318 =>
    some (.inl (l303,l304,v318))
   ) else
   some (.inr (l122,l123))
  ) N (a0.records,a0.refs,0)
 ) fun ((l254,l255) : ((List S76) × (List Int))) =>
 (natI (n58 : Int) a0.backups.length).bind fun n319 =>
 (d31 N (a0.backups.drop n319)).bind fun r320 =>
 (idx r320 0).bind fun x321 =>
 (d32 N a0.changes (fun b0 => d33 N b0 x321.time)).bind fun r322 =>
 some ((S68.mk l254 l255 r320 r322 x321.time),0)
set_option maxRecDepth 100000 in
set_option maxHeartbeats 4000000 in
theorem p14 (N : Nat) (a0 : S68) (a1 : Int) (r : (S68 × Int)) (h : d14 N a0 a1 = some r) : FunM Try.prog 14 [.ptr 1000 0 0,.i a1] [(1000,some (.box [.ref 25000 0 a0.records.length,.ref 25001 0 a0.refs.length,.ref 25002 0 a0.backups.length,.ref 25003 0 a0.changes.length,.i a0.earliest])),(25000,R76 a0.records),(25001,R3 a0.refs),(25002,R64 a0.backups),(25003,R73 a0.changes)] [1000] (.i r.2) ([(1000,(.box [.ref 25000 0 r.1.records.length,.ref 25001 0 r.1.refs.length,.ref 25002 0 r.1.backups.length,.ref 25003 0 r.1.changes.length,.i r.1.earliest])),(25000,(.arr 76 2 (r.1.records.map cS76))),(25001,(.arr 3 1 (r.1.refs.map (cI .i64)))),(25002,(.arr 64 2 (r.1.backups.map cS64))),(25003,(.arr 73 3 (r.1.changes.map cS73)))]) := by
 unfold d14 at h
 refine FunM.enter 112 [(0,.ptr 1000 0 0),(1,.i a1)] Try.func14 rfl (of_decide_eq_true rfl) rfl rfl ?_
 refine .seqR ?_
 refine .rr 2 ?_
 refine .tt [(1,.i a1),(2,.ptr 2 0 0)] (H4 a0) (.nil (.seq ?_))
 replace h := bsome h;obtain ⟨v2,hj,h⟩ := h
 refine .cutR (mk 112 [1000] [(1,.i a1),(2,.ptr 2 0 0),(15,.b v2)] (H4 a0)) ?_ ?_
 ·clear h;have h := hj;clear hj
  refine .rr 3 ?_
  refine .tt [(1,.i a1),(2,.ptr 2 0 0),(12,.b (decide (a1 < 0)))] (H4 a0) ?_
  replace h := isome h;rcases h with ⟨c3,h⟩ | ⟨c3,h⟩
  ·have c3_ : decide (a1 < 0) = true := decide_eq_true c3
   refine .sub (.bool 12 rfl c3_) ?_
   refine .st (mk 112 [1000] [(1,.i a1),(2,.ptr 2 0 0),(12,.b true)] (H4 a0)) ?_
   refine .rr 3 ?_
   refine .tt [(1,.i a1),(2,.ptr 2 0 0),(15,.b true)] (H4 a0) ?_
   cases h
   exact .nil .tt
  have c3_ : decide (a1 < 0) = false := decide_eq_false c3
  refine .sub (.bool 12 rfl c3_) ?_
  refine .st (mk 112 [1000] [(1,.i a1),(2,.ptr 2 0 0),(12,.b false)] (H4 a0)) ?_
  refine .rr 3 ?_
  refine .tt [(1,.i a1),(2,.ptr 2 0 0),(15,.b (decide (a1 > 1099511627776)))] (H4 a0) ?_
  cases h
  exact .nil .tt
 clear hj
 replace h := isome h;rcases h with ⟨c4,h⟩ | ⟨c4,h⟩
 ·have c4_ : v2 = true := c4
  refine .condT rfl c4_ ?_
  refine .seqR ?_
  refine .rr 1 ?_
  refine .tt [(4,.i 1)] (H1 a0) (.nil (.ret ?_))
  cases h
  refine thenQ_ps ?_
  exact FinF.ret (by simp) (by simp)
 have c4_ : v2 = false := Bool.eq_false_iff.2 c4
 refine .condF rfl c4_ ?_
 refine .skip (thenQ_normal (.seqR ?_))
 refine .rr 1 ?_
 refine .tt [(1,.i a1),(2,.ptr 2 0 0),(5,.i 0)] (H4 a0) (.nil ?_)
 refine .seqN (fun (v44 : Int) => mk 112 [1000] [(2,.ptr 2 0 0),(5,.i v44)] (H4 a0)) h ?_ ?_ <;> clear h
 ·intro o h
  refine .block ?_
  refine .iter (fun (v16 : Int) => mk 112 [1000] [(1,.i a1),(2,.ptr 2 0 0),(5,.i v16)] (H4 a0)) h Sub.tt ?_
  clear h
  rintro v16 x h
  refine .seq ?_
  replace h := bsome h;obtain ⟨v50,hj,h⟩ := h
  refine .cutR (mk 112 [1000] [(1,.i a1),(2,.ptr 2 0 0),(5,.i v16),(36,.b v50)] (H4 a0)) ?_ ?_
  ·clear h;have h := hj;clear hj
   replace h := csome h;obtain ⟨v51,hv51,h⟩ := h
   refine .rk 9 fun K k => ?_;simp [hv51];refine k ?_
   refine .tt [(1,.i a1),(2,.ptr 2 0 0),(5,.i v16),(24,.b (decide (v51 < (a0.backups.length : Int))))] (H4 a0) ?_
   replace h := isome h;rcases h with ⟨c52,h⟩ | ⟨c52,h⟩
   ·have c52_ : decide (v51 < (a0.backups.length : Int)) = true := decide_eq_true c52
    refine .sub (.bool 24 rfl c52_) ?_
    refine .st (mk 112 [1000] [(1,.i a1),(2,.ptr 2 0 0),(5,.i v16),(24,.b true)] (H4 a0)) ?_
    replace h := csome h;obtain ⟨v53,hv53,h⟩ := h
    replace h := xsome h;obtain ⟨x54,k55,hx54k,hx54,hx54a,hx54b,h⟩ := h
    refine .rk 12 fun K k => ?_;simp [hv53,hx54,hx54k,hx54a,hx54b];refine k ?_
    refine .tt [(1,.i a1),(2,.ptr 2 0 0),(5,.i v16),(25,.ptr 1000 0 0),(26,.ptr 1000 0 0),(27,.ptr 1000 0 2),(28,.ref 25002 0 a0.backups.length),(29,.i v16),(30,.i v53),(31,.ptr 25002 k55 0),(32,.ptr 25002 k55 0),(33,.i x54.time),(34,.i a1),(35,.b (decide (x54.time ≤ a1))),(36,.b (decide (x54.time ≤ a1)))] (H4 a0) ?_
    cases h
    exact .nil .tt
   have c52_ : decide (v51 < (a0.backups.length : Int)) = false := decide_eq_false c52
   refine .sub (.bool 24 rfl c52_) ?_
   refine .st (mk 112 [1000] [(1,.i a1),(2,.ptr 2 0 0),(5,.i v16),(24,.b false)] (H4 a0)) ?_
   refine .rr 12 ?_
   refine .tt [(1,.i a1),(2,.ptr 2 0 0),(5,.i v16),(25,.tup []),(26,.tup []),(27,.tup []),(28,.tup []),(29,.tup []),(30,.tup []),(31,.tup []),(32,.tup []),(33,.tup []),(34,.tup []),(35,.tup []),(36,.b false)] (H4 a0) ?_
   cases h
   exact .nil .tt
  clear hj
  replace h := isome h;rcases h with ⟨c56,h⟩ | ⟨c56,h⟩
  ·have c56_ : v50 = true := c56
   refine .condT rfl c56_ ?_
   refine .skip (thenQ_normal (.block (.region ?_)))
   replace h := csome h;obtain ⟨v57,hv57,h⟩ := h
   refine .rk 3 fun K k => ?_;simp [hv57];refine k ?_
   refine .tt [(1,.i a1),(2,.ptr 2 0 0),(5,.i v57)] (H4 a0) (.nil ?_)
   cases h
   refine blockQ.normal (PostI.next ?_)
   exact Sub.tt
  have c56_ : v50 = false := Bool.eq_false_iff.2 c56
  refine .condF rfl c56_ ?_
  refine .exit ?_
  cases h
  refine thenQ_ps ?_
  refine PostI.os ?_
  rintro rfl
  refine blockQ.hit (PostN.next ?_)
  exact Sub.tt
 rintro v44 h
 refine .seq (.seqR ?_)
 replace h := bsome h;obtain ⟨n58,gn58,h⟩ := h
 obtain ⟨hn58a,hn58⟩ := natI_some gn58
 clear gn58
 subst hn58a
 refine .rk 8 fun K k => ?_;simp [hn58];refine k ?_
 refine .tt [(2,.ptr 2 0 0),(5,.i (n58 : Int)),(44,.ref 25002 0 n58),(45,.i (n58 : Int)),(46,.i 0)] (H4 a0) (.nil ?_)
 refine .lastN (fun ((l254,l255) : ((List S76) × (List Int))) => mk 112 [1000] [(2,.ptr 2 0 0),(5,.i (n58 : Int))] (H6 l254 l255 a0)) h ?_ ?_ <;> clear h
 ·intro o h
  refine .block ?_
  refine .iter (fun ((l122,l123,v124) : ((List S76) × (List Int) × Int)) => mk 112 [1000] (L36 n58 v124) (H6 l122 l123 a0)) h Sub.tt ?_
  clear h
  rintro ⟨l122,l123,v124⟩ x h
  dsimp only at h ⊢
  refine .seqR ?_
  refine .rr 1 ?_
  refine .tt (L36 n58 v124 ++ [(47,.b (decide (v124 < (n58 : Int))))]) (H6 l122 l123 a0) (.nil (.seq ?_))
  replace h := isome h;rcases h with ⟨c256,h⟩ | ⟨c256,h⟩
  ·have c256_ : decide (v124 < (n58 : Int)) = true := decide_eq_true c256
   refine .condT rfl c256_ ?_
   refine .skip (thenQ_normal (.seq (.block (.seqR ?_))))
   replace h := bsome h;obtain ⟨x257,hx257,h⟩ := h
   obtain ⟨k258,hx257k,hx257,hx257a,hx257b,hx257c⟩ := idx_take hx257
   refine .rk 4 fun K k => ?_;simp [hx257,hx257k,hx257a,hx257b];refine k ?_
   refine .tt [(2,.ptr 2 0 0),(5,.i (n58 : Int)),(7,.ptr 7 0 0),(44,.ref 25002 0 n58),(45,.i (n58 : Int)),(46,.i v124)] [(2,some (.box [.ptr 1000 0 0])),(7,some (.box [.i x257.time,.si x257.records])),(1000,some (.box [.ref 25000 0 l122.length,.ref 25001 0 l123.length,.ref 25002 0 a0.backups.length,.ref 25003 0 a0.changes.length,.i a0.earliest])),(25000,R76 l122),(25001,R3 l123),(25002,R64 a0.backups),(25003,R73 a0.changes)] (.nil (.seqR ?_))
   refine .rr 4 ?_
   refine .tt (L36 n58 v124 ++ [(51,.si x257.records),(52,.i (x257.records.length : Int)),(53,.i 0)]) (H6 l122 l123 a0) (.nil ?_)
   refine .lastN (fun ((l303,l304) : ((List S76) × (List Int))) => mk 112 [1000] (L36 n58 v124) (H6 l303 l304 a0)) h ?_ ?_ <;> clear h
   ·intro o h
    refine .block ?_
    refine .iter (fun ((l271,l272,v273) : ((List S76) × (List Int) × Int)) => mk 112 [1000] (L37 n58 v124 x257.records x257.records.length v273) (H6 l271 l272 a0)) h Sub.tt ?_
    clear h
    rintro ⟨l271,l272,v273⟩ x h
    dsimp only at h ⊢
    refine .seqR ?_
    refine .rr 1 ?_
    refine .tt (L37 n58 v124 x257.records x257.records.length v273 ++ [(54,.b (decide (v273 < (x257.records.length : Int))))]) (H6 l271 l272 a0) (.nil (.seq ?_))
    replace h := isome h;rcases h with ⟨c305,h⟩ | ⟨c305,h⟩
    ·have c305_ : decide (v273 < (x257.records.length : Int)) = true := decide_eq_true c305
     refine .condT rfl c305_ ?_
     refine .skip (thenQ_normal (.seq (.block (.seqR ?_))))
     replace h := xsome h;obtain ⟨x306,k307,hx306k,hx306,hx306a,hx306b,h⟩ := h
     refine .rk 3 fun K k => ?_;simp [hx306,hx306k,hx306a];refine k ?_
     refine .tt (L38 n58 x306 v124 x257.records x257.records.length v273) (H6 l271 l272 a0) (.nil (.seqR ?_))
     replace h := xsome h;obtain ⟨x308,k309,hx308k,hx308,hx308a,hx308b,h⟩ := h
     replace h := csome h;obtain ⟨v310,hv310,h⟩ := h
     replace h := lsome h;obtain ⟨l311,gl311,h⟩ := h
     obtain ⟨hl311,hl311n⟩ := setI_some (cI .i64) gl311 hx308k
     replace hl311 : (l272.map (cI .i64)).set k309 [.lit (.int .i64 v310)] = l311.map (cI .i64) := hl311
     clear gl311
     refine .rk 10 fun K k => ?_;simp [hx308,hx308k,hx308a,hx308b,hv310,hl311];refine k ?_
     refine .sub (S' := mk 112 [1000] (L38 n58 x306 v124 x257.records x257.records.length v273) (H6 l271 l311 a0)) (Sub.table (by simp) (by simp [hl311n])) ?_
     refine .nil (.seqR ?_)
     replace h := bsome h;obtain ⟨x312,hx312,h⟩ := h
     obtain ⟨hx312,hx312a,hx312b⟩ := idx_some2 hx312 hx308k
     refine .rk 8 fun K k => ?_;simp [hx312,hx308k,hx312a,hx312b];refine k ?_
     refine .tt (L38 n58 x306 v124 x257.records x257.records.length v273 ++ [(73,.b (x312 == 0))]) (H6 l271 l311 a0) (.nil ?_)
     replace h := isome h;rcases h with ⟨c313,h⟩ | ⟨c313,h⟩
     ·have c313_ : (x312 == 0) = true := c313
      refine .condT rfl c313_ ?_
      refine .region ?_
      replace h := bsome h;obtain ⟨x314,hx314,h⟩ := h
      obtain ⟨hx314,hx314a,hx314b⟩ := idx_some2 hx314 hx308k
      refine .rk 7 fun K k => ?_;simp [hx308k,hx314a,hx314b];refine k ?_
      refine .tt (L37 n58 v124 x257.records x257.records.length v273 ++ [(79,.agg [.s (ByteArray.mk #[]),.z]),(80,.ptr 25000 k309 0)]) (H6 l271 l311 a0) ?_
      refine .sub (.wk 79 rfl) ?_
      refine .st (mk 112 [1000] (L37 n58 v124 x257.records x257.records.length v273 ++ [(79,.agg [.s (ByteArray.mk #[]),.s71 ([] : List S71)]),(80,.ptr 25000 k309 0)]) (H6 l271 l311 a0)) ?_
      replace h := lsome h;obtain ⟨l315,gl315,h⟩ := h
      obtain ⟨hl315,hl315n⟩ := setI_some cS76 gl315 hx308k
      replace hl315 : (l271.map cS76).set k309 [.lit (.string (ByteArray.mk #[])),.sl []] = l315.map cS76 := hl315
      clear gl315
      refine .rk 1 fun K k => ?_;simp [hx314,hl315];refine k ?_
      refine .sub (S' := mk 112 [1000] (L37 n58 v124 x257.records x257.records.length v273) (H6 l315 l311 a0)) (Sub.table (by simp) (by simp [hl315n])) ?_
      refine .nil (blockQ.normal (thenQ_normal (.region ?_)))
      replace h := csome h;obtain ⟨v316,hv316,h⟩ := h
      refine .rk 2 fun K k => ?_;simp [hv316];refine k ?_
      refine .tt (L37 n58 v124 x257.records x257.records.length v316) (H6 l315 l311 a0) (.nil ?_)
      cases h
      refine PostI.next ?_
      exact Sub.tt
     have c313_ : (x312 == 0) = false := Bool.eq_false_iff.2 c313
     refine .condF rfl c313_ ?_
     refine .skip (blockQ.normal (thenQ_normal (.region ?_)))
     replace h := csome h;obtain ⟨v317,hv317,h⟩ := h
     refine .rk 2 fun K k => ?_;simp [hv317];refine k ?_
     refine .tt (L37 n58 v124 x257.records x257.records.length v317) (H6 l271 l311 a0) (.nil ?_)
     cases h
     refine PostI.next ?_
     exact Sub.tt
    have c305_ : decide (v273 < (x257.records.length : Int)) = false := decide_eq_false c305
    refine .condF rfl c305_ ?_
    refine .exit ?_
    cases h
    refine thenQ_ps ?_
    refine PostI.os ?_
    rintro rfl
    refine blockQ.hit (PostN.next ?_)
    exact Sub.tt
   rintro ⟨l303,l304⟩ h
   dsimp only at h ⊢
   refine blockQ.normal (thenQ_normal (.region ?_))
   replace h := csome h;obtain ⟨v318,hv318,h⟩ := h
   refine .rk 2 fun K k => ?_;simp [hv318];refine k ?_
   refine .tt (L36 n58 v318) (H6 l303 l304 a0) (.nil ?_)
   cases h
   refine PostI.next ?_
   exact Sub.tt
  have c256_ : decide (v124 < (n58 : Int)) = false := decide_eq_false c256
  refine .condF rfl c256_ ?_
  refine .exit ?_
  cases h
  refine thenQ_ps ?_
  refine PostI.os ?_
  rintro rfl
  refine blockQ.hit (PostN.next ?_)
  exact Sub.tt
 rintro ⟨l254,l255⟩ h
 dsimp only at h ⊢
 refine thenQ_normal ?_
 replace h := bsome h;obtain ⟨n319,gn319,h⟩ := h
 obtain ⟨hn319a,hn319⟩ := natI_some gn319
 clear gn319
 replace h := bsome h;obtain ⟨r320,hr320,h⟩ := h
 refine .seqAnyS [[],[],[1],[1,2],[1,2,3],[],[1,2,3,4,5],[1,2,3,4,5,6],[0,1,2,3,4,5,6,7],[0,1,2,3,4,5,6,7,8],[0,1,2,3,4,5,6,7,8,9]] (fun (b : Nat → Bool) => mk 112 [1000] [(2,.ptr 2 0 0),(5,.i (n58 : Int)),(83,(if b 0 then .ptr 1000 0 0 else .junk)),(84,(if b 1 then .ptr 1000 0 0 else .junk)),(85,(if b 2 then .ptr 1000 0 0 else .junk)),(86,(if b 3 then .ptr 1000 0 2 else .junk)),(87,(if b 4 then .ref 25002 0 a0.backups.length else .junk)),(88,(if b 5 then .i (n58 : Int) else .junk)),(89,(if b 6 then .ref 25002 n319 (a0.backups.length - n319) else .junk)),(90,(if b 7 then .ref 90 0 r320.length else .junk)),(91,(if b 8 then .ptr 1000 0 0 else .junk)),(92,(if b 9 then .ptr 1000 0 2 else .junk))] [(2,some (.box [.ptr 1000 0 0])),(90,(if b 7 then R64 r320 else none)),(1000,(if b 10 then some (.box [.ref 25000 0 l254.length,.ref 25001 0 l255.length,.ref 90 0 r320.length,.ref 25003 0 a0.changes.length,.i a0.earliest]) else some (.box [.ref 25000 0 l254.length,.ref 25001 0 l255.length,.ref 25002 0 a0.backups.length,.ref 25003 0 a0.changes.length,.i a0.earliest]))),(25000,R76 l254),(25001,R3 l255),(25002,R64 a0.backups),(25003,R73 a0.changes)]) (mk 112 [1000] [(2,.ptr 2 0 0)] [(2,some (.box [.ptr 1000 0 0])),(90,R64 r320),(1000,some (.box [.ref 25000 0 l254.length,.ref 25001 0 l255.length,.ref 90 0 r320.length,.ref 25003 0 a0.changes.length,.i a0.earliest])),(25000,R76 l254),(25001,R3 l255),(25003,R73 a0.changes)]) (by kernel_rfl) (by kernel_rfl) Sub.tt (Steps.cons ?_ (Steps.cons ?_ (Steps.cons ?_ (Steps.cons ?_ (Steps.cons ?_ (Steps.cons ?_ (Steps.cons ?_ (Steps.cons ?_ (Steps.cons ?_ (Steps.cons ?_ (Steps.cons ?_ (Steps.nil)))))))))))) ?_ ?_
 iterate 5
  ·intro b h0 ha hd
   have T := fct h0 ha hd;simp at T
   refine .rk 1 fun K k => ?_;simp [T];refine k ?_
   exact .nil .tT
 iterate 2
  ·intro b h0 ha hd
   have T := fct h0 ha hd;simp at T
   refine .rk 1 fun K k => ?_;simp [T,hn319,hn319a];refine k ?_
   exact .nil (.table (by simp [T,hn319a]) (by simp [T]))
 ·intro b h0 ha hd
  have T := fct h0 ha hd;simp at T
  simp only [T,if_true,if_false,Bool.false_eq_true]
  refine .callF (pq31 N a0.backups n319 hn319 r320 hr320) [(25002,1000)] [25002] [(1000,25002),(5,90)] [(90,.arr 64 2 (r320.map cS64)),(25002,.arr 64 2 (a0.backups.map cS64))] (.ref 90 0 r320.length) (by simp) rfl (by simp <;> rfl) (by simp) (by simp) (by simp) (by simp) (by simp) ent31 (by simp) (by simp) (by simp) (by simp) (by simp) (by simp) ?_
  exact .nil (by simp [T];exact Sub.tT)
 iterate 3
  ·intro b h0 ha hd
   have T := fct h0 ha hd;simp at T
   refine .rk 1 fun K k => ?_;simp [T];refine k ?_
   exact .nil .tT
 ·intro b hb
  have T := FA_of (n := 11) hb;simp at T
  exact Sub.tT
 skip
 refine .sub (S' := mk 112 [1000] [(2,.ptr 2 0 0)] (H17 l254 l255 r320 a0)) (Sub.names [(2,2),(90,25002),(1000,1000),(25000,25000),(25001,25001),(25003,25003)] (by simp) (by simp) (by simp [back]) (by simp [V.rnm,lk2]) (by simp [back,Blk.rnm,V.rnm,rnmL,lk2])) ?_
 replace h := bsome h;obtain ⟨x321,hx321,h⟩ := h
 obtain ⟨hx321,hx321b,hx321c⟩ := idx_someN (n := 0) hx321
 have hx321d : (0 : Int) < (r320.length : Int) := by omega
 refine .seqT 10 (by kernel_rfl) (by kernel_rfl) fun K k => ?_;simp [hx321b,hx321c];refine k _ _ ?_;clear k K
 refine .tt [(2,.ptr 2 0 0),(100,.i x321.time),(102,.ptr 1000 0 4)] (H17 l254 l255 r320 a0) ?_
 refine .rr 1 ?_
 refine .tt [(2,.ptr 2 0 0)] [(2,some (.box [.ptr 1000 0 0])),(1000,some (.box [.ref 25000 0 l254.length,.ref 25001 0 l255.length,.ref 25002 0 r320.length,.ref 25003 0 a0.changes.length,.i x321.time])),(25000,R76 l254),(25001,R3 l255),(25002,R64 r320),(25003,R73 a0.changes)] (.nil ?_)
 replace h := bsome h;obtain ⟨r322,hr322,h⟩ := h
 refine .seqAnyS [[],[],[1],[1,2],[1,2,3],[],[1,2,3,4,5],[0,1,2,3,4,5,6],[0,1,2,3,4,5,6,7],[0,1,2,3,4,5,6,7,8]] (fun (b : Nat → Bool) => mk 112 [1000] [(2,.ptr 2 0 0),(103,(if b 0 then .ptr 1000 0 0 else .junk)),(104,(if b 1 then .ptr 1000 0 0 else .junk)),(105,(if b 2 then .ptr 1000 0 0 else .junk)),(106,(if b 3 then .ptr 1000 0 3 else .junk)),(107,(if b 4 then .ref 25003 0 a0.changes.length else .junk)),(108,(if b 5 then .fn (.func 33) [.ptr 2 0 0] else .junk)),(109,(if b 6 then .ref 25003 0 r322.length else .junk)),(110,(if b 7 then .ptr 1000 0 0 else .junk)),(111,(if b 8 then .ptr 1000 0 3 else .junk))] [(2,some (.box [.ptr 1000 0 0])),(1000,(if b 9 then some (.box [.ref 25000 0 l254.length,.ref 25001 0 l255.length,.ref 25002 0 r320.length,.ref 25003 0 r322.length,.i x321.time]) else (if b 6 then some (.box [.ref 25000 0 l254.length,.ref 25001 0 l255.length,.ref 25002 0 r320.length,.hole,.i x321.time]) else some (.box [.ref 25000 0 l254.length,.ref 25001 0 l255.length,.ref 25002 0 r320.length,.ref 25003 0 a0.changes.length,.i x321.time])))),(25000,R76 l254),(25001,R3 l255),(25002,R64 r320),(25003,(if b 6 then R73 r322 else R73 a0.changes))]) (mk 112 [1000] [] [(1000,some (.box [.ref 25000 0 l254.length,.ref 25001 0 l255.length,.ref 25002 0 r320.length,.ref 25003 0 r322.length,.i x321.time])),(25000,R76 l254),(25001,R3 l255),(25002,R64 r320),(25003,R73 r322)]) (by kernel_rfl) (by kernel_rfl) Sub.tt (Steps.cons ?_ (Steps.cons ?_ (Steps.cons ?_ (Steps.cons ?_ (Steps.cons ?_ (Steps.cons ?_ (Steps.cons ?_ (Steps.cons ?_ (Steps.cons ?_ (Steps.cons ?_ (Steps.nil))))))))))) ?_ ?_
 iterate 6
  ·intro b h0 ha hd
   have T := fct h0 ha hd;simp at T
   refine .rk 1 fun K k => ?_;simp [T];refine k ?_
   exact .nil .tT
 ·intro b h0 ha hd
  have T := fct h0 ha hd;simp at T
  simp only [T,if_true,if_false,Bool.false_eq_true]
  refine .callF (p32 N a0.changes l254 l255 r320 x321.time 0 l254.length 0 l255.length 0 r320.length r322 hr322) [(25003,1000),(2,2000),(1000,3000),(25000,65000),(25001,65001),(25002,65002)] [25003,2,1000] [(1000,25003),(2000,2),(3000,1000),(65000,25000),(65001,25001),(65002,25002)] [(25003,(.arr 73 3 (r322.map cS73))),(2,(.box [.ptr 1000 0 0])),(1000,(.box [.ref 25000 0 l254.length,.ref 25001 0 l255.length,.ref 25002 0 r320.length,.hole,.d (.lit (.int .i64 x321.time))])),(25000,(.arr 76 2 (l254.map cS76))),(25001,(.arr 3 1 (l255.map (cI .i64)))),(25002,(.arr 64 2 (r320.map cS64)))] (.ref 25003 0 r322.length) (by simp) rfl (by simp <;> rfl) (by simp) (by simp) (by simp) (by simp) (by simp) ent32 (by simp) (by simp) (by simp) (by simp) (by simp) (by simp) ?_
  exact .nil (by simp [T];exact Sub.tT)
 iterate 3
  ·intro b h0 ha hd
   have T := fct h0 ha hd;simp at T
   refine .rk 1 fun K k => ?_;simp [T];refine k ?_
   exact .nil .tT
 ·intro b hb
  have T := FA_of (n := 10) hb;simp at T
  exact Sub.tT
 skip
 refine .seqR ?_
 refine .rr 1 ?_
 refine .tt [(4,.i 0)] [(1000,some (.box [.ref 25000 0 l254.length,.ref 25001 0 l255.length,.ref 25002 0 r320.length,.ref 25003 0 r322.length,.i x321.time])),(25000,R76 l254),(25001,R3 l255),(25002,R64 r320),(25003,R73 r322)] (.nil (.ret ?_))
 cases h
 exact FinF.ret (by simp) (by simp)
def d16 (_ : Nat) (a0 : (List S46)) : Option (List S46) := if a0.length * 48 ≤ Rp.reach then some a0 else none
theorem pl16 (N : Nat) (a0 : (List S46)) (r : (List S46)) (h : d16 N a0 = some r) : FunM Try.prog 16 [.ref 1000 0 a0.length] [(1000,R46 a0)] [1000] (.ref 5 0 r.length) [(5,.arr 46 3 (r.map cS46)),(1000,.arr 46 3 (a0.map cS46))] := by
 obtain ⟨hz,h⟩ := gsome h
 cases h
 refine FunM.enter 8 [(0,.ref 1000 0 a0.length)] Try.func16 rfl (of_decide_eq_true rfl) rfl rfl ?_
 refine .goR [] 1 fun K k => ?_;simp;refine k _ ?_;clear k K
 refine .seq (.seqR ?_)
 refine .rr 1 ?_
 refine .eqNilRef (id := 1000) (off := 0) (len := a0.length) (by simp) rfl ty37 rfl (by simp) (by simp) fun b hb => ?_
 refine .nil ?_
 cases b with
 | true =>
  have he : a0 = [] := by
   cases a0 with
   | nil => rfl
   | cons x xs => exact absurd (hb (by simp)) (by simp)
  subst he
  refine .condK fun K1 K2 k1 k2 => ?_;simp;refine k1 ?_;clear k1 k2 K1 K2
  refine .goR [] 1 fun K k => ?_;simp;refine k _ ?_;clear k K
  refine .sub (.nilOwn (t := 2) (id := 5) (T := 46) (n := 3) rfl rfl (by decide)) ?_
  refine .st (mk 8 [1000] [(2,.ref 5 0 0)] [(5,some (.arr 46 3 [])),(1000,some (.arr 46 3 []))]) (.ret ?_)
  exact thenQ_pass (by simp) (FinF.ret (by simp) (by simp))
 | false =>
  refine .condK fun K1 K2 k1 k2 => ?_;simp;refine k2 ?_;clear k1 k2 K1 K2
  refine .skip (thenQ_normal ?_)
  refine .goR [] 4 fun K k => ?_;simp [hz];refine k _ ?_;clear k K
  refine .tt [(2,.ref 5 0 a0.length)] [(5,R46 a0),(1000,R46 a0)] (.ret ?_)
  exact FinF.ret (by simp) (by simp)
end Go.Proofs.Ytfdhaigfonolpaa
