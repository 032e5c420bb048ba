/- Functions of the program as functional programs; the code computes them. -/
import Derived.Test.YtfdhaigfonolpaaBk0
namespace Go.Proofs.Ytfdhaigfonolpaa
set_option maxRecDepth 100000
set_option maxHeartbeats 4000000
open Go.Ab Go.Rp
attribute [-simp] List.all_eq_true Array.all_toList Array.all_eq_true
def d4 (_N : Nat)  : Option (Option S68) :=
 some (some (S68.mk ([] : List S76) ([] : List Int) ([(S64.mk 0 [])] : List S64) ([] : List S73) 0))
theorem p4 (N : Nat)  (r : (Option S68)) (h : d4 N  = some r) : FunM Try.prog 4 [] [] [] ((match (generalizing := false) r with | none => V.d (.lit (.pointer none)) | some _ => V.ptr 1000 0 0)) ([] ++ (match (generalizing := false) r with | none => [] | some o => [(1000,(.box [.ref 25000 0 o.records.length,.ref 25001 0 o.refs.length,.ref 25002 0 o.backups.length,.ref 25003 0 o.changes.length,.i o.earliest])),(25000,(.arr 76 2 (o.records.map cS76))),(25001,(.arr 3 1 (o.refs.map (cI .i64)))),(25002,(.arr 64 2 (o.backups.map cS64))),(25003,(.arr 73 3 (o.changes.map cS73)))])) := by
 unfold d4 at h
 refine FunM.enter 5 [] Try.func4 rfl (of_decide_eq_true rfl) rfl rfl ?_
 refine .seqR ?_
 refine .rr 1 ?_
 refine .tt [] [] (.nil (.seqR ?_))
 refine .rr 2 ?_
 refine .sub (.wkRow 2 rfl) ?_
 refine .st (mk 5 [] [(1,.agg [.i 0,.z]),(2,.ref 2 0 (([(S64.mk 0 [])] : List S64).length))] [(2,R64 ([(S64.mk 0 [])] : List S64))]) ?_
 refine .rr 2 ?_
 refine .tt [(4,.ptr 4 0 0)] [(2,R64 ([(S64.mk 0 [])] : List S64)),(4,some (.box [.z,.z,.ref 2 0 (([(S64.mk 0 [])] : List S64).length),.z,.i 0]))] ?_
 refine .sub (.nilOwnBox (bid := 4) (j := 0) (id := 5080) (T := 76) (n := 2) rfl rfl (by decide) rfl (by decide)) ?_
 refine .st (mk 5 [] [(4,.ptr 4 0 0)] [(2,R64 ([(S64.mk 0 [])] : List S64)),(4,some (.box [.ref 5080 0 (([] : List S76).length),.z,.ref 2 0 (([(S64.mk 0 [])] : List S64).length),.z,.i 0])),(5080,R76 ([] : List S76))]) ?_
 refine .sub (.nilOwnBox (bid := 4) (j := 1) (id := 5081) (T := 3) (n := 1) rfl rfl (by decide) rfl (by decide)) ?_
 refine .st (mk 5 [] [(4,.ptr 4 0 0)] [(2,R64 ([(S64.mk 0 [])] : List S64)),(4,some (.box [.ref 5080 0 (([] : List S76).length),.ref 5081 0 (([] : List Int).length),.ref 2 0 (([(S64.mk 0 [])] : List S64).length),.z,.i 0])),(5080,R76 ([] : List S76)),(5081,R3 ([] : List Int))]) ?_
 refine .sub (S' := mk 5 [] [(4,.ptr 4 0 0)] [(4,some (.box [.ref 5080 0 (([] : List S76).length),.ref 5081 0 (([] : List Int).length),.ref 5082 0 (([(S64.mk 0 [])] : List S64).length),.z,.i 0])),(5080,R76 ([] : List S76)),(5081,R3 ([] : List Int)),(5082,R64 ([(S64.mk 0 [])] : List S64))]) (Sub.names [(2,5082),(4,4),(5080,5080),(5081,5081)] (by simp) (by simp) (by simp [back]) (by simp [V.rnm,lk2]) (by simp [back,Blk.rnm,V.rnm,rnmL,lk2])) ?_
 refine .sub (.nilOwnBox (bid := 4) (j := 3) (id := 5083) (T := 73) (n := 3) rfl rfl (by decide) rfl (by decide)) ?_
 refine .st (mk 5 [] [(4,.ptr 4 0 0)] H12) ?_
 refine .rr 1 ?_
 refine .tt [(0,.ptr 4 0 0)] H12 (.nil ?_)
 refine .sub (S' := mk 5 [] [(0,.ptr 1000 0 0)] [(1000,some (.box [.ref 25000 0 (([] : List S76).length),.ref 25001 0 (([] : List Int).length),.ref 25002 0 (([(S64.mk 0 [])] : List S64).length),.ref 25003 0 (([] : List S73).length),.i 0])),(25000,R76 ([] : List S76)),(25001,R3 ([] : List Int)),(25002,R64 ([(S64.mk 0 [])] : List S64)),(25003,R73 ([] : List S73))]) (Sub.names [(4,1000),(5080,25000),(5081,25001),(5082,25002),(5083,25003)] (by simp) (by simp) (by simp [back]) (by simp [V.rnm,lk2]) (by simp [back,Blk.rnm,V.rnm,rnmL,lk2])) ?_
 refine .ret ?_
 cases h
 exact FinF.ret (by simp) (by simp)
def d6 (_N : Nat)  : Option (List S71) :=
 some ([(S71.mk 1 5 (ByteArray.mk #[]))] : List S71)
theorem p6 (N : Nat)  (r : (List S71)) (h : d6 N  = some r) : FunC Try.prog 6 [] (.s71 r) := by
 unfold d6 at h
 refine FunC.enter 3 [] (by simp) Try.func6 rfl (of_decide_eq_true rfl) rfl rfl ?_
 refine .seqR ?_
 refine .rr 1 ?_
 refine .tt [] [] (.nil (.seqR ?_))
 refine .rr 3 ?_
 refine .tt [(0,.ref 2 0 (([(S71.mk 1 5 (ByteArray.mk #[]))] : List S71).length))] [(2,R71 ([(S71.mk 1 5 (ByteArray.mk #[]))] : List S71))] (.nil ?_)
 refine .sub (.freeze 2 rfl) ?_
 refine .st (mk 3 [] [(0,.s71 ([(S71.mk 1 5 (ByteArray.mk #[]))] : List S71))] []) (.ret ?_)
 cases h
 exact FinC.rs
def d23 (_N : Nat) (a0 : S68) : Option Int :=
 (chkI ((a0.backups.length : Int) - 1)).bind fun v1 =>
 (idx a0.backups v1).bind fun x2 =>
 if (a0.changes.length : Int) > 0 then (
  (chkI ((a0.changes.length : Int) - 1)).bind fun v5 =>
  (idx a0.changes v5).bind fun x6 =>
  letv (maxI x2.time x6.time) fun v8 =>
  some v8
 ) else
 some x2.time
theorem p23 (N : Nat) (a0 : S68) (r : Int) (h : d23 N a0 = some r) : FunC Try.prog 23 [.d (.pim [.sl (a0.records.map cS76),.sl (a0.refs.map (cI .i64)),.sl (a0.backups.map cS64),.sl (a0.changes.map cS73),.lit (.int .i64 a0.earliest)])] (.i r) := by
 unfold d23 at h
 refine FunC.enter 37 [(0,.d (.pim [.sl (a0.records.map cS76),.sl (a0.refs.map (cI .i64)),.sl (a0.backups.map cS64),.sl (a0.changes.map cS73),.lit (.int .i64 a0.earliest)]))] (by simp) Try.func23 rfl (of_decide_eq_true rfl) rfl rfl ?_
 refine .seqR ?_
 refine .rr 1 ?_
 refine .tt [(0,.d (.pim [.sl (a0.records.map cS76),.sl (a0.refs.map (cI .i64)),.sl (a0.backups.map cS64),.sl (a0.changes.map cS73),.lit (.int .i64 a0.earliest)]))] [] (.nil ?_)
 refine .seqQ (by kernel_rfl) (by kernel_rfl) ?_
 replace h := csome h;obtain ⟨v1,hv1,h⟩ := h
 replace h := xsome h;obtain ⟨x2,k3,hx2k,hx2,hx2a,hx2b,h⟩ := h
 refine .rq 14 fun K k => ?_;simp [hv1,hx2,hx2k,hx2a];refine k ?_
 refine .tt (L1 a0.records a0.refs a0.backups a0.changes a0.earliest x2.time) [] (.nil (.seq (.seqR ?_)))
 refine .rr 6 ?_
 refine .tt (L1 a0.records a0.refs a0.backups a0.changes a0.earliest x2.time ++ [(4,.i (a0.changes.length : Int))]) [] (.nil (.seqR ?_))
 refine .rr 2 ?_
 refine .tt (L1 a0.records a0.refs a0.backups a0.changes a0.earliest x2.time ++ [(4,.i (a0.changes.length : Int)),(24,.b (decide ((a0.changes.length : Int) > 0)))]) [] (.nil ?_)
 replace h := isome h;rcases h with ⟨c4,h⟩ | ⟨c4,h⟩
 ·have c4_ : decide ((a0.changes.length : Int) > 0) = true := decide_eq_true c4
  refine .condT rfl c4_ ?_
  refine .region ?_
  replace h := csome h;obtain ⟨v5,hv5,h⟩ := h
  replace h := xsome h;obtain ⟨x6,k7,hx6k,hx6,hx6a,hx6b,h⟩ := h
  replace h := lsome h;obtain ⟨v8,hv8,h⟩ := h
  unfold maxI at hv8
  try simp only [Int.ofNat_lt] at hv8
  refine .rk 12 fun K k => ?_;simp [hv5,hx6,hx6k,hx6a,hv8];refine k ?_
  refine .tt [(3,.i v8)] [] (.nil (thenQ_normal (.seqR ?_)))
  refine .rr 2 ?_
  refine .tt [(2,.i v8)] [] (.nil (.ret ?_))
  cases h
  exact FinC.rs
 have c4_ : decide ((a0.changes.length : Int) > 0) = false := decide_eq_false c4
 refine .condF rfl c4_ ?_
 refine .skip (thenQ_normal (.seqR ?_))
 refine .rr 2 ?_
 refine .tt [(2,.i x2.time)] [] (.nil (.ret ?_))
 cases h
 exact FinC.rs
def d24 (_ : Nat) (a0 : (List S71)) : Option (List S71) := if a0.length * 32 ≤ Rp.reach then some a0 else none
theorem p24 (N : Nat) (a0 : (List S71)) (r : (List S71)) (h : d24 N a0 = some r) : FunC Try.prog 24 [.s71 a0] (.s71 r) := by
 obtain ⟨hz,h⟩ := gsome h
 cases h
 refine FunC.enter 8 [(0,.s71 a0)] (by simp) Try.func24 rfl (of_decide_eq_true rfl) rfl rfl ?_
 refine .goR [] 1 fun K k => ?_;simp;refine k _ ?_;clear k K
 refine .seq (.seqR ?_)
 refine .rr 1 ?_
 refine .eqNilE (es := a0.map cS71) (by simp) rfl ty30 rfl (by simp) (by simp) fun b hb => ?_
 refine .nil ?_
 cases b with
 | true =>
  have he : a0 = [] := by
   cases a0 with
   | nil => rfl
   | cons x xs => exact absurd (hb (by simp)) (by simp)
  subst he
  refine .condK fun K1 K2 k1 k2 => ?_;simp;refine k1 ?_;clear k1 k2 K1 K2
  refine .goR [] 1 fun K k => ?_;simp;refine k _ ?_;clear k K
  refine .sub (.wk 2 rfl) ?_
  refine .st (mk 8 [] [(2,.d (.sl []))] []) (.ret ?_)
  exact thenQ_pass (by simp) (FinC.ret (by simp) (by simp))
 | false =>
  refine .condK fun K1 K2 k1 k2 => ?_;simp;refine k2 ?_;clear k1 k2 K1 K2
  refine .skip (thenQ_normal ?_)
  refine .goR [] 4 fun K k => ?_;simp [hz];refine k _ ?_;clear k K
  refine .tt [(2,.ref 5 0 a0.length)] [(5,R71 a0)] ?_
  refine .sub (.freeze 5 rfl) ?_
  refine .st (mk 8 [] [(2,.s71 a0)] []) (.ret ?_)
  exact FinC.rs
def d5 (N : Nat) (a0 : S68) (a1 : Int) (a2 : ByteArray) (a3 : (List S71)) : Option (S68 × Int) :=
 (d23 N a0).bind fun r1 =>
 if a1 ≤ r1 then (
  some (a0,6)
 ) else
 Option.bind (α := Bool) (
  if a1 > 1099511627776 then (
   some true
  ) else
  if (a2.size : Int) > 24 then (
   some true
  ) else
  some (decide ((a3.length : Int) > 6))
 ) fun (v5 : Bool) =>
 if v5 = true then (
  some (a0,2)
 ) else
 if ((a0.changes.length : Int) == 200) then (
  some (a0,18)
 ) else
 (d24 N a3).bind fun r10 =>
 (appL 48 a0.changes [(S73.mk a1 a2 r10)]).bind fun _l11 =>
 some ((S68.mk a0.records a0.refs a0.backups (a0.changes ++ [(S73.mk a1 a2 r10)]) a0.earliest),0)
theorem p5 (N : Nat) (a0 : S68) (a1 : Int) (a2 : ByteArray) (a3 : (List S71)) (r : (S68 × Int)) (h : d5 N a0 a1 a2 a3 = some r) : FunM Try.prog 5 [.ptr 1000 0 0,.i a1,.s a2,.s71 a3] [(1000,some (.box [.ref 25000 0 a0.records.length,.ref 25001 0 a0.refs.length,.ref 25002 0 a0.backups.length,.ref 25003 0 a0.changes.length,.i a0.earliest])),(25000,R76 a0.records),(25001,R3 a0.refs),(25002,R64 a0.backups),(25003,R73 a0.changes)] [1000] (.i r.2) ([(1000,(.box [.ref 25000 0 r.1.records.length,.ref 25001 0 r.1.refs.length,.ref 25002 0 r.1.backups.length,.ref 25003 0 r.1.changes.length,.i r.1.earliest])),(25000,(.arr 76 2 (r.1.records.map cS76))),(25001,(.arr 3 1 (r.1.refs.map (cI .i64)))),(25002,(.arr 64 2 (r.1.backups.map cS64))),(25003,(.arr 73 3 (r.1.changes.map cS73)))]) := by
 unfold d5 at h
 refine FunM.enter 45 [(0,.ptr 1000 0 0),(1,.i a1),(2,.s a2),(3,.s71 a3)] Try.func5 rfl (of_decide_eq_true rfl) rfl rfl ?_
 refine .seqR ?_
 refine .rr 1 ?_
 refine .tt (L2 a1 a2 a3) (H1 a0) (.nil (.seq (.seqR ?_)))
 refine .rr 2 ?_
 refine .tt (L2 a1 a2 a3 ++ [(9,.i a1),(10,.ptr 1000 0 0)]) (H1 a0) ?_
 replace h := bsome h;obtain ⟨r1,hr1,h⟩ := h
 refine .callL (d := 11) (p23 N a0 r1 hr1) (by simp) rfl rfl (by simp <;> rfl) (by simp <;> rfl) ent23 (by simp <;> rfl) ?_
 refine .st (mk 45 [1000] (L2 a1 a2 a3 ++ [(9,.i a1),(10,.ptr 1000 0 0),(11,.i r1)]) (H1 a0)) ?_
 refine .rr 1 ?_
 refine .tt (L2 a1 a2 a3 ++ [(12,.b (decide (a1 ≤ r1)))]) (H1 a0) (.nil ?_)
 replace h := isome h;rcases h with ⟨c2,h⟩ | ⟨c2,h⟩
 ·have c2_ : decide (a1 ≤ r1) = true := decide_eq_true c2
  refine .condT rfl c2_ ?_
  refine .seqR ?_
  refine .rr 1 ?_
  refine .tt [(8,.i 6)] (H1 a0) (.nil (.ret ?_))
  cases h
  refine thenQ_ps ?_
  exact FinF.ret (by simp) (by simp)
 have c2_ : decide (a1 ≤ r1) = false := decide_eq_false c2
 refine .condF rfl c2_ ?_
 refine .skip (thenQ_normal (.seq ?_))
 replace h := bsome h;obtain ⟨v5,hj,h⟩ := h
 refine .cutR (mk 45 [1000] (L2 a1 a2 a3 ++ [(24,.b v5)]) (H1 a0)) ?_ ?_
 ·clear h;have h := hj;clear hj
  refine .rr 3 ?_
  refine .tt (L2 a1 a2 a3 ++ [(15,.b (decide (a1 > 1099511627776)))]) (H1 a0) ?_
  replace h := isome h;rcases h with ⟨c6,h⟩ | ⟨c6,h⟩
  ·have c6_ : decide (a1 > 1099511627776) = true := decide_eq_true c6
   refine .sub (.bool 15 rfl c6_) ?_
   refine .st (mk 45 [1000] (L2 a1 a2 a3 ++ [(15,.b true)]) (H1 a0)) ?_
   refine .rr 9 ?_
   refine .tt (L2 a1 a2 a3 ++ [(24,.b true)]) (H1 a0) ?_
   cases h
   exact .nil .tt
  have c6_ : decide (a1 > 1099511627776) = false := decide_eq_false c6
  refine .sub (.bool 15 rfl c6_) ?_
  refine .st (mk 45 [1000] (L2 a1 a2 a3 ++ [(15,.b false)]) (H1 a0)) ?_
  refine .rr 5 ?_
  refine .tt (L2 a1 a2 a3 ++ [(20,.b (decide ((a2.size : Int) > 24)))]) (H1 a0) ?_
  replace h := isome h;rcases h with ⟨c7,h⟩ | ⟨c7,h⟩
  ·have c7_ : decide ((a2.size : Int) > 24) = true := decide_eq_true c7
   refine .sub (.bool 20 rfl c7_) ?_
   refine .st (mk 45 [1000] (L2 a1 a2 a3 ++ [(20,.b true)]) (H1 a0)) ?_
   refine .rr 4 ?_
   refine .tt (L2 a1 a2 a3 ++ [(24,.b true)]) (H1 a0) ?_
   cases h
   exact .nil .tt
  have c7_ : decide ((a2.size : Int) > 24) = false := decide_eq_false c7
  refine .sub (.bool 20 rfl c7_) ?_
  refine .st (mk 45 [1000] (L2 a1 a2 a3 ++ [(20,.b false)]) (H1 a0)) ?_
  refine .rr 4 ?_
  refine .tt (L2 a1 a2 a3 ++ [(24,.b (decide ((a3.length : Int) > 6)))]) (H1 a0) ?_
  cases h
  exact .nil .tt
 clear hj
 replace h := isome h;rcases h with ⟨c8,h⟩ | ⟨c8,h⟩
 ·have c8_ : v5 = true := c8
  refine .condT rfl c8_ ?_
  refine .seqR ?_
  refine .rr 1 ?_
  refine .tt [(8,.i 2)] (H1 a0) (.nil (.ret ?_))
  cases h
  refine thenQ_ps ?_
  exact FinF.ret (by simp) (by simp)
 have c8_ : v5 = false := Bool.eq_false_iff.2 c8
 refine .condF rfl c8_ ?_
 refine .skip (thenQ_normal (.seq (.seqR ?_)))
 refine .rr 6 ?_
 refine .tt (L2 a1 a2 a3 ++ [(30,.b ((a0.changes.length : Int) == 200))]) (H1 a0) (.nil ?_)
 replace h := isome h;rcases h with ⟨c9,h⟩ | ⟨c9,h⟩
 ·have c9_ : ((a0.changes.length : Int) == 200) = true := c9
  refine .condT rfl c9_ ?_
  refine .seqR ?_
  refine .rr 1 ?_
  refine .tt [(8,.i 18)] (H1 a0) (.nil (.ret ?_))
  cases h
  refine thenQ_ps ?_
  exact FinF.ret (by simp) (by simp)
 have c9_ : ((a0.changes.length : Int) == 200) = false := Bool.eq_false_iff.2 c9
 refine .condF rfl c9_ ?_
 refine .skip (thenQ_normal ?_)
 replace h := bsome h;obtain ⟨r10,hr10,h⟩ := h
 replace h := bsome h;obtain ⟨l11,hl11,h⟩ := h
 obtain ⟨hl11a,hl11⟩ := appL_some hl11
 subst hl11
 try simp only [List.length_cons,List.length_nil,Nat.zero_add] at hl11a
 refine .seqAnyS [[],[],[1],[1,2],[1,2,3],[],[],[],[7],[5,6,7,8],[5,6,7,8,9],[1,2,3,4,5,6,7,8,9,10],[0,1,2,3,4,5,6,7,8,9,10,11],[0,1,2,3,4,5,6,7,8,9,10,11,12],[0,1,2,3,4,5,6,7,8,9,10,11,12,13]] (fun (b : Nat → Bool) => mk 45 [1000] [(0,.ptr 1000 0 0),(1,.i a1),(2,.s a2),(3,.s71 a3),(31,(if b 0 then .ptr 1000 0 0 else .junk)),(32,(if b 1 then .ptr 1000 0 0 else .junk)),(33,(if b 2 then .ptr 1000 0 0 else .junk)),(34,(if b 3 then .ptr 1000 0 3 else .junk)),(35,(if b 11 then .junk else (if b 4 then .ref 25003 0 a0.changes.length else .junk))),(36,(if b 5 then .i a1 else .junk)),(37,(if b 6 then .s a2 else .junk)),(38,(if b 7 then .s71 a3 else .junk)),(39,(if b 8 then .s71 r10 else .junk)),(40,(if b 9 then .agg [.i a1,.s a2,.s71 r10] else .junk)),(41,(if b 10 then .d (.sl ([(S73.mk a1 a2 r10)].map cS73)) else .junk)),(42,(if b 11 then .ref 25003 0 ((a0.changes ++ [(S73.mk a1 a2 r10)]).length) else .junk)),(43,(if b 12 then .ptr 1000 0 0 else .junk)),(44,(if b 13 then .ptr 1000 0 3 else .junk))] [(1000,(if b 14 then some (.box [.ref 25000 0 a0.records.length,.ref 25001 0 a0.refs.length,.ref 25002 0 a0.backups.length,.ref 25003 0 ((a0.changes ++ [(S73.mk a1 a2 r10)]).length),.i a0.earliest]) else (if b 11 then some (.box [.ref 25000 0 a0.records.length,.ref 25001 0 a0.refs.length,.ref 25002 0 a0.backups.length,.hole,.i a0.earliest]) else some (.box [.ref 25000 0 a0.records.length,.ref 25001 0 a0.refs.length,.ref 25002 0 a0.backups.length,.ref 25003 0 a0.changes.length,.i a0.earliest])))),(25000,R76 a0.records),(25001,R3 a0.refs),(25002,R64 a0.backups),(25003,(if b 11 then R73 (a0.changes ++ [(S73.mk a1 a2 r10)]) else R73 a0.changes))]) (mk 45 [1000] [] [(1000,some (.box [.ref 25000 0 a0.records.length,.ref 25001 0 a0.refs.length,.ref 25002 0 a0.backups.length,.ref 25003 0 ((a0.changes ++ [(S73.mk a1 a2 r10)]).length),.i a0.earliest])),(25000,R76 a0.records),(25001,R3 a0.refs),(25002,R64 a0.backups),(25003,R73 (a0.changes ++ [(S73.mk a1 a2 r10)]))]) (by kernel_rfl) (by kernel_rfl) Sub.tt (Steps.cons ?_ (Steps.cons ?_ (Steps.cons ?_ (Steps.cons ?_ (Steps.cons ?_ (Steps.cons ?_ (Steps.cons ?_ (Steps.cons ?_ (Steps.cons ?_ (Steps.cons ?_ (Steps.cons ?_ (Steps.cons ?_ (Steps.cons ?_ (Steps.cons ?_ (Steps.cons ?_ (Steps.nil)))))))))))))))) ?_ ?_
 iterate 8
  ·intro b h0 ha hd
   have T := fct h0 ha hd;simp at T
   refine .runK [41] 1 fun K k => ?_;simp [T];refine k _ _ ?_;clear k K
   exact .nil .tT
 ·intro b h0 ha hd
  have T := fct h0 ha hd;simp at T
  simp only [T,if_true,if_false,Bool.false_eq_true]
  refine .callC (d := 39) (p24 N a3 r10 hr10) (by simp) rfl rfl (by simp <;> rfl) (by simp <;> rfl) ent24 (by simp) (.inl ⟨by simp,by simp⟩) ?_
  exact .nil (by simp [T];exact Sub.tT)
 iterate 2
  ·intro b h0 ha hd
   have T := fct h0 ha hd;simp at T
   refine .runK [41] 1 fun K k => ?_;simp [T];refine k _ _ ?_;clear k K
   exact .nil .tT
 iterate 4
  ·intro b h0 ha hd
   have T := fct h0 ha hd;simp at T
   refine .runK [41] 1 fun K k => ?_;simp [T,hl11a];refine k _ _ ?_;clear k K
   exact .nil .tT
 ·intro b hb
  have T := FA_of (n := 15) hb;simp at T
  exact Sub.tT
 skip
 refine .seqR ?_
 refine .rr 1 ?_
 refine .tt [(8,.i 0)] [(1000,some (.box [.ref 25000 0 a0.records.length,.ref 25001 0 a0.refs.length,.ref 25002 0 a0.backups.length,.ref 25003 0 ((a0.changes ++ [(S73.mk a1 a2 r10)]).length),.i a0.earliest])),(25000,R76 a0.records),(25001,R3 a0.refs),(25002,R64 a0.backups),(25003,R73 (a0.changes ++ [(S73.mk a1 a2 r10)]))] (.nil (.ret ?_))
 cases h
 exact FinF.ret (by simp) (by simp)
def d7 (_N : Nat) (a0 : (List Int)) (a1 : Int) : Option Int :=
 if a1 < (a0.length : Int) then (
  (idx a0 a1).bind fun x2 =>
  some x2
 ) else
 some 0
theorem p7 (N : Nat) (a0 : (List Int)) (a1 : Int) (r : Int) (h : d7 N a0 a1 = some r) : FunC Try.prog 7 [.si a0,.i a1] (.i r) := by
 unfold d7 at h
 refine FunC.enter 13 [(0,.si a0),(1,.i a1)] (by simp) Try.func7 rfl (of_decide_eq_true rfl) rfl rfl ?_
 refine .seqR ?_
 refine .rr 1 ?_
 refine .tt [(0,.si a0),(1,.i a1)] [] (.nil (.seq (.seqR ?_)))
 refine .rr 4 ?_
 refine .tt [(0,.si a0),(1,.i a1),(8,.b (decide (a1 < (a0.length : Int))))] [] (.nil ?_)
 replace h := isome h;rcases h with ⟨c1,h⟩ | ⟨c1,h⟩
 ·have c1_ : decide (a1 < (a0.length : Int)) = true := decide_eq_true c1
  refine .condT rfl c1_ ?_
  refine .seqR ?_
  replace h := xsome h;obtain ⟨x2,k3,hx2k,hx2,hx2a,hx2b,h⟩ := h
  refine .rk 5 fun K k => ?_;simp [hx2,hx2k,hx2a];refine k ?_
  refine .tt [(4,.i x2)] [] (.nil (.ret ?_))
  cases h
  refine thenQ_ps ?_
  exact FinC.rs
 have c1_ : decide (a1 < (a0.length : Int)) = false := decide_eq_false c1
 refine .condF rfl c1_ ?_
 refine .skip (thenQ_normal (.seqR ?_))
 refine .rr 1 ?_
 refine .tt [(4,.i 0)] [] (.nil (.ret ?_))
 cases h
 exact FinC.rs
def d8 (_N : Nat) (a0 : (List ByteArray)) (a1 : Int) : Option ByteArray :=
 if ((a0.length : Int) == 0) then (
  some (ByteArray.mk #[])
 ) else
 letv (IntKind.u64.wrap (a1)) fun v2 =>
 letv (IntKind.u64.wrap ((a0.length : Int))) fun v3 =>
 (remI v2 v3).bind fun v4 =>
 (chkI (v4)).bind fun v5 =>
 (idx a0 v5).bind fun x6 =>
 some x6
theorem p8 (N : Nat) (a0 : (List ByteArray)) (a1 : Int) (r : ByteArray) (h : d8 N a0 a1 = some r) : FunC Try.prog 8 [.ss a0,.i a1] (.s r) := by
 unfold d8 at h
 refine FunC.enter 20 [(0,.ss a0),(1,.i a1)] (by simp) Try.func8 rfl (of_decide_eq_true rfl) rfl rfl ?_
 refine .seqR ?_
 refine .rr 1 ?_
 refine .tt [(0,.ss a0),(1,.i a1)] [] (.nil (.seqR ?_))
 refine .rr 1 ?_
 refine .tt [(0,.ss a0),(1,.i a1),(5,.s (ByteArray.mk #[]))] [] (.nil (.seq (.seqR ?_)))
 refine .rr 3 ?_
 refine .tt [(0,.ss a0),(1,.i a1),(5,.s (ByteArray.mk #[])),(8,.b ((a0.length : Int) == 0))] [] (.nil ?_)
 replace h := isome h;rcases h with ⟨c1,h⟩ | ⟨c1,h⟩
 ·have c1_ : ((a0.length : Int) == 0) = true := c1
  refine .condT rfl c1_ ?_
  refine .seqR ?_
  refine .rr 2 ?_
  refine .tt [(4,.s (ByteArray.mk #[]))] [] (.nil (.ret ?_))
  cases h
  refine thenQ_ps ?_
  exact FinC.rs
 have c1_ : ((a0.length : Int) == 0) = false := Bool.eq_false_iff.2 c1
 refine .condF rfl c1_ ?_
 refine .skip (thenQ_normal (.seqR ?_))
 replace h := lsome h;obtain ⟨v2,hv2,h⟩ := h
 replace h := lsome h;obtain ⟨v3,hv3,h⟩ := h
 replace h := bsome h;obtain ⟨v4,hv4,h⟩ := h
 obtain ⟨hv4a,hv4⟩ := remI_some hv4
 replace h := csome h;obtain ⟨v5,hv5,h⟩ := h
 replace h := xsome h;obtain ⟨x6,k7,hx6k,hx6,hx6a,hx6b,h⟩ := h
 refine .rk 11 fun K k => ?_;simp [hv2,hv3,hv4,hv4a,hv5,hx6,hx6k,hx6a];refine k ?_
 refine .tt [(4,.s x6)] [] (.nil (.ret ?_))
 cases h
 exact FinC.rs
def d9 (_N : Nat) (a0 : (List (List S71))) (a1 : Int) : Option (List S71) :=
 if ((a0.length : Int) == 0) then (
  some ([] : List S71)
 ) else
 letv (IntKind.u64.wrap (a1)) fun v2 =>
 letv (IntKind.u64.wrap ((a0.length : Int))) fun v3 =>
 (remI v2 v3).bind fun v4 =>
 (chkI (v4)).bind fun v5 =>
 (idx a0 v5).bind fun x6 =>
 some x6
theorem p9 (N : Nat) (a0 : (List (List S71))) (a1 : Int) (r : (List S71)) (h : d9 N a0 a1 = some r) : FunC Try.prog 9 [.ls71 a0,.i a1] (.s71 r) := by
 unfold d9 at h
 refine FunC.enter 20 [(0,.ls71 a0),(1,.i a1)] (by simp) Try.func9 rfl (of_decide_eq_true rfl) rfl rfl ?_
 refine .seqR ?_
 refine .rr 1 ?_
 refine .tt [(0,.ls71 a0),(1,.i a1)] [] (.nil (.seqR ?_))
 refine .rr 1 ?_
 refine .tt [(0,.ls71 a0),(1,.i a1),(5,.z)] [] (.nil (.seq (.seqR ?_)))
 refine .rr 3 ?_
 refine .tt [(0,.ls71 a0),(1,.i a1),(5,.z),(8,.b ((a0.length : Int) == 0))] [] (.nil ?_)
 replace h := isome h;rcases h with ⟨c1,h⟩ | ⟨c1,h⟩
 ·have c1_ : ((a0.length : Int) == 0) = true := c1
  refine .condT rfl c1_ ?_
  refine .seqR ?_
  refine .rr 2 ?_
  refine .tt [(4,.z)] [] (.nil ?_)
  refine .sub (.wk 4 rfl) ?_
  refine .st (mk 20 [] [(4,.s71 ([] : List S71))] []) (.ret ?_)
  cases h
  refine thenQ_ps ?_
  exact FinC.rs
 have c1_ : ((a0.length : Int) == 0) = false := Bool.eq_false_iff.2 c1
 refine .condF rfl c1_ ?_
 refine .skip (thenQ_normal (.seqR ?_))
 replace h := lsome h;obtain ⟨v2,hv2,h⟩ := h
 replace h := lsome h;obtain ⟨v3,hv3,h⟩ := h
 replace h := bsome h;obtain ⟨v4,hv4,h⟩ := h
 obtain ⟨hv4a,hv4⟩ := remI_some hv4
 replace h := csome h;obtain ⟨v5,hv5,h⟩ := h
 replace h := xsome h;obtain ⟨x6,k7,hx6k,hx6,hx6a,hx6b,h⟩ := h
 refine .rk 11 fun K k => ?_;simp [hv2,hv3,hv4,hv4a,hv5,hx6,hx6k,hx6a];refine k ?_
 refine .tt [(4,.s71 x6)] [] (.nil (.ret ?_))
 cases h
 exact FinC.rs
def d10 (N : Nat) (a0 : S39) : Option (S39 × Int) :=
 Option.bind (α := Int) (
  iterN (σ := (Int × Int)) (ρ := Int) (fun ((v5,v6) : (Int × Int)) =>
   if v6 < (a0.Backups.length : Int) then (
    (idx a0.Backups v6).bind fun x21 =>
    letv (maxI v5 x21.Time) fun v23 =>
    (chkI (v6 + 1)).bind fun v24 =>
    some (.inl (v23,v24))
   ) else
   some (.inr v5)
  ) N (0,0)
 ) fun (v19 : Int) =>
 Option.bind (α := Int) (
  iterN (σ := (Int × Int)) (ρ := Int) (fun ((v29,v30) : (Int × Int)) =>
   if v30 < (a0.Changes.length : Int) then (
    (idx a0.Changes v30).bind fun x45 =>
    letv (maxI v29 x45.Time) fun v47 =>
    (chkI (v30 + 1)).bind fun v48 =>
    some (.inl (v47,v48))
   ) else
   some (.inr v29)
  ) N (v19,0)
 ) fun (v43 : Int) =>
 some (a0,v43)
theorem p10 (N : Nat) (a0 : S39) (gh1000 : List S35) (r : (S39 × Int)) (h : d10 N a0 = some r) : FunM Try.prog 10 [.ptr 1000 0 0] [(1000,some (.box [.ref 25000 gh1000.length a0.Backups.length,.ref 25001 0 a0.Changes.length,.i a0.Earliest])),(25000,R35 (gh1000 ++ a0.Backups)),(25001,R46 a0.Changes)] [1000] (.i r.2) ([(1000,(.box [.ref 25000 gh1000.length r.1.Backups.length,.ref 25001 0 r.1.Changes.length,.i r.1.Earliest])),(25000,(.arr 35 2 ((gh1000 ++ r.1.Backups).map cS35))),(25001,(.arr 46 3 (r.1.Changes.map cS46)))]) := by
 unfold d10 at h
 refine FunM.enter 37 [(0,.ptr 1000 0 0)] Try.func10 rfl (of_decide_eq_true rfl) rfl rfl ?_
 refine .seqR ?_
 refine .rr 1 ?_
 refine .tt [(0,.ptr 1000 0 0)] [(1000,some (.box [.ref 25000 gh1000.length a0.Backups.length,.ref 25001 0 a0.Changes.length,.i a0.Earliest])),(25000,R35 (gh1000 ++ a0.Backups)),(25001,R46 a0.Changes)] (.nil (.seqR ?_))
 refine .rr 1 ?_
 refine .tt [(0,.ptr 1000 0 0),(3,.i 0)] [(1000,some (.box [.ref 25000 gh1000.length a0.Backups.length,.ref 25001 0 a0.Changes.length,.i a0.Earliest])),(25000,R35 (gh1000 ++ a0.Backups)),(25001,R46 a0.Changes)] (.nil (.seq (.seqR ?_)))
 refine .rr 6 ?_
 refine .tt [(0,.ptr 1000 0 0),(3,.i 0),(11,.ref 25000 gh1000.length a0.Backups.length),(12,.i (a0.Backups.length : Int)),(13,.i 0)] [(1000,some (.box [.ref 25000 gh1000.length a0.Backups.length,.ref 25001 0 a0.Changes.length,.i a0.Earliest])),(25000,R35 (gh1000 ++ a0.Backups)),(25001,R46 a0.Changes)] (.nil ?_)
 refine .lastN (fun (v19 : Int) => mk 37 [1000] [(0,.ptr 1000 0 0),(3,.i v19)] [(1000,some (.box [.ref 25000 gh1000.length a0.Backups.length,.ref 25001 0 a0.Changes.length,.i a0.Earliest])),(25000,R35 (gh1000 ++ a0.Backups)),(25001,R46 a0.Changes)]) h ?_ ?_ <;> clear h
 ·intro o h
  refine .block ?_
  refine .iter (fun ((v5,v6) : (Int × Int)) => mk 37 [1000] (L3 v5 gh1000.length a0.Backups.length v6) [(1000,some (.box [.ref 25000 gh1000.length a0.Backups.length,.ref 25001 0 a0.Changes.length,.i a0.Earliest])),(25000,R35 (gh1000 ++ a0.Backups)),(25001,R46 a0.Changes)]) h Sub.tt ?_
  clear h
  rintro ⟨v5,v6⟩ x h
  dsimp only at h ⊢
  refine .seqR ?_
  refine .rr 1 ?_
  refine .tt (L3 v5 gh1000.length a0.Backups.length v6 ++ [(14,.b (decide (v6 < (a0.Backups.length : Int))))]) [(1000,some (.box [.ref 25000 gh1000.length a0.Backups.length,.ref 25001 0 a0.Changes.length,.i a0.Earliest])),(25000,R35 (gh1000 ++ a0.Backups)),(25001,R46 a0.Changes)] (.nil (.seq ?_))
  replace h := isome h;rcases h with ⟨c20,h⟩ | ⟨c20,h⟩
  ·have c20_ : decide (v6 < (a0.Backups.length : Int)) = true := decide_eq_true c20
   refine .condT rfl c20_ ?_
   refine .skip (thenQ_normal (.seq (.block (.seqR ?_))))
   replace h := xsome h;obtain ⟨x21,k22,hx21k,hx21,hx21a,hx21b,h⟩ := h
   refine .rk 4 fun K k => ?_;simp [hx21,hx21k,hx21a,hx21b];refine k ?_
   refine .tt [(0,.ptr 1000 0 0),(3,.i v5),(5,.ptr 5 0 0),(11,.ref 25000 gh1000.length a0.Backups.length),(12,.i (a0.Backups.length : Int)),(13,.i v6)] [(5,some (.box [.i x21.Time,.d (.mpi .string false (x21.State.map (MKey.sk ∘ Prod.fst)) (x21.State.map ((cL cS71) ∘ Prod.snd)))])),(1000,some (.box [.ref 25000 gh1000.length a0.Backups.length,.ref 25001 0 a0.Changes.length,.i a0.Earliest])),(25000,R35 (gh1000 ++ a0.Backups)),(25001,R46 a0.Changes)] (.nil (.region ?_))
   replace h := lsome h;obtain ⟨v23,hv23,h⟩ := h
   unfold maxI at hv23
   try simp only [Int.ofNat_lt] at hv23
   refine .rk 5 fun K k => ?_;simp [hv23];refine k ?_
   refine .tt (L3 v23 gh1000.length a0.Backups.length v6) [(1000,some (.box [.ref 25000 gh1000.length a0.Backups.length,.ref 25001 0 a0.Changes.length,.i a0.Earliest])),(25000,R35 (gh1000 ++ a0.Backups)),(25001,R46 a0.Changes)] (.nil (blockQ.normal (thenQ_normal (.region ?_))))
   replace h := csome h;obtain ⟨v24,hv24,h⟩ := h
   refine .rk 2 fun K k => ?_;simp [hv24];refine k ?_
   refine .tt (L3 v23 gh1000.length a0.Backups.length v24) [(1000,some (.box [.ref 25000 gh1000.length a0.Backups.length,.ref 25001 0 a0.Changes.length,.i a0.Earliest])),(25000,R35 (gh1000 ++ a0.Backups)),(25001,R46 a0.Changes)] (.nil ?_)
   cases h
   refine PostI.next ?_
   exact Sub.tt
  have c20_ : decide (v6 < (a0.Backups.length : Int)) = false := decide_eq_false c20
  refine .condF rfl c20_ ?_
  refine .exit ?_
  cases h
  refine thenQ_ps ?_
  refine PostI.os ?_
  rintro rfl
  refine blockQ.hit (PostN.next ?_)
  exact Sub.tt
 rintro v19 h
 refine thenQ_normal (.seq (.seqR ?_))
 refine .rr 6 ?_
 refine .tt [(3,.i v19),(25,.ref 25001 0 a0.Changes.length),(26,.i (a0.Changes.length : Int)),(27,.i 0)] [(1000,some (.box [.ref 25000 gh1000.length a0.Backups.length,.ref 25001 0 a0.Changes.length,.i a0.Earliest])),(25000,R35 (gh1000 ++ a0.Backups)),(25001,R46 a0.Changes)] (.nil ?_)
 refine .lastN (fun (v43 : Int) => mk 37 [1000] [(3,.i v43)] [(1000,some (.box [.ref 25000 gh1000.length a0.Backups.length,.ref 25001 0 a0.Changes.length,.i a0.Earliest])),(25000,R35 (gh1000 ++ a0.Backups)),(25001,R46 a0.Changes)]) h ?_ ?_ <;> clear h
 ·intro o h
  refine .block ?_
  refine .iter (fun ((v29,v30) : (Int × Int)) => mk 37 [1000] (L4 v29 a0.Changes.length v30) [(1000,some (.box [.ref 25000 gh1000.length a0.Backups.length,.ref 25001 0 a0.Changes.length,.i a0.Earliest])),(25000,R35 (gh1000 ++ a0.Backups)),(25001,R46 a0.Changes)]) h Sub.tt ?_
  clear h
  rintro ⟨v29,v30⟩ x h
  dsimp only at h ⊢
  refine .seqR ?_
  refine .rr 1 ?_
  refine .tt (L4 v29 a0.Changes.length v30 ++ [(28,.b (decide (v30 < (a0.Changes.length : Int))))]) [(1000,some (.box [.ref 25000 gh1000.length a0.Backups.length,.ref 25001 0 a0.Changes.length,.i a0.Earliest])),(25000,R35 (gh1000 ++ a0.Backups)),(25001,R46 a0.Changes)] (.nil (.seq ?_))
  replace h := isome h;rcases h with ⟨c44,h⟩ | ⟨c44,h⟩
  ·have c44_ : decide (v30 < (a0.Changes.length : Int)) = true := decide_eq_true c44
   refine .condT rfl c44_ ?_
   refine .skip (thenQ_normal (.seq (.block (.seqR ?_))))
   replace h := xsome h;obtain ⟨x45,k46,hx45k,hx45,hx45a,hx45b,h⟩ := h
   refine .rk 4 fun K k => ?_;simp [hx45,hx45k,hx45a,hx45b];refine k ?_
   refine .tt [(3,.i v29),(7,.ptr 7 0 0),(25,.ref 25001 0 a0.Changes.length),(26,.i (a0.Changes.length : Int)),(27,.i v30)] [(7,some (.box [.i x45.Time,.s x45.Key,.s71 x45.Row])),(1000,some (.box [.ref 25000 gh1000.length a0.Backups.length,.ref 25001 0 a0.Changes.length,.i a0.Earliest])),(25000,R35 (gh1000 ++ a0.Backups)),(25001,R46 a0.Changes)] (.nil (.region ?_))
   replace h := lsome h;obtain ⟨v47,hv47,h⟩ := h
   unfold maxI at hv47
   try simp only [Int.ofNat_lt] at hv47
   refine .rk 5 fun K k => ?_;simp [hv47];refine k ?_
   refine .tt (L4 v47 a0.Changes.length v30) [(1000,some (.box [.ref 25000 gh1000.length a0.Backups.length,.ref 25001 0 a0.Changes.length,.i a0.Earliest])),(25000,R35 (gh1000 ++ a0.Backups)),(25001,R46 a0.Changes)] (.nil (blockQ.normal (thenQ_normal (.region ?_))))
   replace h := csome h;obtain ⟨v48,hv48,h⟩ := h
   refine .rk 2 fun K k => ?_;simp [hv48];refine k ?_
   refine .tt (L4 v47 a0.Changes.length v48) [(1000,some (.box [.ref 25000 gh1000.length a0.Backups.length,.ref 25001 0 a0.Changes.length,.i a0.Earliest])),(25000,R35 (gh1000 ++ a0.Backups)),(25001,R46 a0.Changes)] (.nil ?_)
   cases h
   refine PostI.next ?_
   exact Sub.tt
  have c44_ : decide (v30 < (a0.Changes.length : Int)) = false := decide_eq_false c44
  refine .condF rfl c44_ ?_
  refine .exit ?_
  cases h
  refine thenQ_ps ?_
  refine PostI.os ?_
  rintro rfl
  refine blockQ.hit (PostN.next ?_)
  exact Sub.tt
 rintro v43 h
 refine thenQ_normal (.seqR ?_)
 refine .rr 2 ?_
 refine .tt [(2,.i v43)] [(1000,some (.box [.ref 25000 gh1000.length a0.Backups.length,.ref 25001 0 a0.Changes.length,.i a0.Earliest])),(25000,R35 (gh1000 ++ a0.Backups)),(25001,R46 a0.Changes)] (.nil (.ret ?_))
 cases h
 exact FinF.ret (by simp) (by simp)
end Go.Proofs.Ytfdhaigfonolpaa
