/- Functions of the program as functional programs; the code computes them. -/
import Derived.Test.YtdiekinmoklonaaLk11
namespace Go.Proofs.Ytdiekinmoklonaa
open Go.Ab Go.Rp
attribute [-simp] List.all_eq_true Array.all_toList Array.all_eq_true

/-- stemma/stemlaw5.sameLocks$1 -/
def d35 (_N : Nat) (a0 : S29) (a1 : Int) : Option Bool :=
 some (a0.Tx == a1)
set_option maxRecDepth 100000 in
set_option maxHeartbeats 4000000 in
theorem p35 (N : Nat) (a0 : S29) (a1 : Int) (r : Bool) (h : d35 N a0 a1 = some r) : FunC Try.prog 35 [.agg [.i a0.Tx, .d (.lit (.string a0.Table)), .d (.lit (.string a0.Key)), .i a0.Mode], .d (.pim [.lit (.int .i64 a1)])] (.b r) := by
 unfold d35 at h
 refine FunC.enter 8 [(0, .agg [.i a0.Tx, .d (.lit (.string a0.Table)), .d (.lit (.string a0.Key)), .i a0.Mode]), (1, .d (.pim [.lit (.int .i64 a1)]))] (by simp) Try.func35 rfl (of_decide_eq_true rfl) rfl rfl ?_
 refine AW.seqR ?_
 refine Chain.runK [] 2 fun K hK => ?_; simp; refine hK _ _ ?_; clear hK K
 refine Chain.sub (S' := mk 8 [] [(1, .d (.pim [.lit (.int .i64 a1)])), (2, .ptr 2 0 0)] [(2, some (.box [.i a0.Tx, .d (.lit (.string a0.Table)), .d (.lit (.string a0.Key)), .i a0.Mode]))]) Sub.tt ?_
 refine Chain.nil ?_
 refine AW.seqR ?_
 refine Chain.runK [] 5 fun K hK => ?_; simp; refine hK _ _ ?_; clear hK K
 refine Chain.sub (S' := mk 8 [] [(3, .b (a0.Tx == a1))] []) Sub.tt ?_
 refine Chain.nil ?_
 refine AW.ret ?_
 cases h
 exact FinC.ret (by simp) (by simp)

/-- slices.IndexFunc[[]stemma/stemref5.Lock,stemma/stemref5.Lock] -/
def d34 (N : Nat) (a0 : (List S29)) (p1 : S29 → Option Bool) : Option Int :=
 bindO (β := Unit) (ρ := Int) (
  iterN (σ := Int) (ρ := (Out Unit Int)) (fun (v6 : Int) =>
   if v6 < (a0.length : Int) then (
    (idx a0 v6).bind fun x21 =>
    (p1 x21).bind fun r23 =>
    if r23 = true then (
     some (.inr (.ret v6))
    ) else
    (chkI (v6 + 1)).bind fun v25 =>
    some (.inl v25)
   ) else
   some (.inr (.go ()))
  ) N 0
 ) fun (_ : Unit) =>
 some (-1)
set_option maxRecDepth 100000 in
set_option maxHeartbeats 4000000 in
theorem p34 (N : Nat) (a0 : (List S29)) (g1 : Nat) (cs1 : List D) (p1 : S29 → Option Bool) (ent_1 : Rp.Enters Try.prog g1) (hp1 : ∀ a0 r, p1 a0 = some r → FunC Try.prog g1 ([.agg [.i a0.Tx, .d (.lit (.string a0.Table)), .d (.lit (.string a0.Key)), .i a0.Mode]] ++ cs1.map .d) (.b r)) (r : Int) (h : d34 N a0 p1 = some r) : FunC Try.prog 34 [.d (.sl (a0.map cS29)), .fn (.func g1) (cs1.map .d)] (.i r) := by
 unfold d34 at h
 refine FunC.enter 19 [(0, .d (.sl (a0.map cS29))), (1, .fn (.func g1) (cs1.map .d))] (by simp) Try.func34 rfl (of_decide_eq_true rfl) rfl rfl ?_
 refine AW.seqR ?_
 refine Chain.runK [] 1 fun K hK => ?_; simp; refine hK _ _ ?_; clear hK K
 refine Chain.sub (S' := mk 19 [] [(0, .d (.sl (a0.map cS29))), (1, .fn (.func g1) (cs1.map .d))] []) Sub.tt ?_
 refine Chain.nil ?_
 refine AW.seq ?_
 refine AW.seqR ?_
 refine Chain.runK [] 3 fun K hK => ?_; simp; refine hK _ _ ?_; clear hK K
 refine Chain.sub (S' := mk 19 [] [(0, .d (.sl (a0.map cS29))), (1, .fn (.func g1) (cs1.map .d)), (7, .i (a0.length : Int)), (8, .i 0)] []) Sub.tt ?_
 refine Chain.nil ?_
 refine AW.lastJ (fun (_ : Unit) => mk 19 [] [] []) h ?_ ?_ <;> clear h
 ·intro o h
  refine AW.block ?_
  refine AW.iter (fun (v6 : Int) => mk 19 [] [(0, .d (.sl (a0.map cS29))), (1, .fn (.func g1) (cs1.map .d)), (7, .i (a0.length : Int)), (8, .i v6)] []) h Sub.tt ?_
  clear h
  rintro v6 x h
  refine AW.seqR ?_
  refine Chain.runK [] 1 fun K hK => ?_; simp; refine hK _ _ ?_; clear hK K
  refine Chain.sub (S' := mk 19 [] [(0, .d (.sl (a0.map cS29))), (1, .fn (.func g1) (cs1.map .d)), (7, .i (a0.length : Int)), (8, .i v6), (9, .b (decide (v6 < (a0.length : Int))))] []) Sub.tt ?_
  refine Chain.nil ?_
  refine AW.seq ?_
  replace h := isome h; rcases h with ⟨c20, h⟩ | ⟨c20, h⟩
  ·have c20_ : decide (v6 < (a0.length : Int)) = true := decide_eq_true c20
   refine AW.condT (b := decide (v6 < (a0.length : Int))) rfl c20_ ?_
   refine AW.sub (Sub.bool 9 (b := decide (v6 < (a0.length : Int))) rfl c20_) ?_
   refine AW.sub (S' := mk 19 [] [(0, .d (.sl (a0.map cS29))), (1, .fn (.func g1) (cs1.map .d)), (7, .i (a0.length : Int)), (8, .i v6), (9, .b true)] []) (by simp; exact Sub.table (by simp) (by simp)) ?_
   refine AW.skip ?_
   refine thenQ_normal ?_
   refine AW.seq ?_
   refine AW.block ?_
   refine AW.seqR ?_
   refine Chain.runK [] 2 fun K hK => ?_; simp; refine hK _ _ ?_; clear hK K
   refine Chain.sub (S' := mk 19 [] [(0, .d (.sl (a0.map cS29))), (1, .fn (.func g1) (cs1.map .d)), (5, .i v6), (7, .i (a0.length : Int)), (8, .i v6)] []) Sub.tt ?_
   refine Chain.nil ?_
   refine AW.seqR ?_
   replace h := bsome h; obtain ⟨x21, hx21, h⟩ := h
   obtain ⟨k22, hx21k, hx21, hx21a, hx21b⟩ := idx_some hx21
   refine Chain.runK [] 5 fun K hK => ?_; simp [hx21, hx21k, hx21a]; refine hK _ _ ?_; clear hK K
   refine Chain.sub (S' := mk 19 [] [(0, .d (.sl (a0.map cS29))), (1, .fn (.func g1) (cs1.map .d)), (5, .i v6), (7, .i (a0.length : Int)), (8, .i v6), (11, .fn (.func g1) (cs1.map .d)), (15, .agg [.i x21.Tx, .d (.lit (.string x21.Table)), .d (.lit (.string x21.Key)), .i x21.Mode])] []) Sub.tt ?_
   replace h := bsome h; obtain ⟨r23, hr23, h⟩ := h
   refine Chain.callL (d := 16) (hp1 x21 r23 hr23) (by simp) rfl rfl (by simp <;> rfl) (by simp <;> rfl) ent_1 (by simp <;> rfl) ?_
   refine Chain.sub (S' := mk 19 [] [(0, .d (.sl (a0.map cS29))), (1, .fn (.func g1) (cs1.map .d)), (5, .i v6), (7, .i (a0.length : Int)), (8, .i v6), (11, .fn (.func g1) (cs1.map .d)), (15, .agg [.i x21.Tx, .d (.lit (.string x21.Table)), .d (.lit (.string x21.Key)), .i x21.Mode]), (16, .b r23)] []) (by simp; exact Sub.table (by simp) (by simp)) ?_
   refine Chain.nil ?_
   replace h := isome h; rcases h with ⟨c24, h⟩ | ⟨c24, h⟩
   ·have c24_ : r23 = true := c24
    refine AW.condT (b := r23) rfl c24_ ?_
    refine AW.sub (Sub.bool 16 (b := r23) rfl c24_) ?_
    refine AW.sub (S' := mk 19 [] [(0, .d (.sl (a0.map cS29))), (1, .fn (.func g1) (cs1.map .d)), (5, .i v6), (7, .i (a0.length : Int)), (8, .i v6), (11, .fn (.func g1) (cs1.map .d)), (15, .agg [.i x21.Tx, .d (.lit (.string x21.Table)), .d (.lit (.string x21.Key)), .i x21.Mode]), (16, .b true)] []) (by simp; exact Sub.table (by simp) (by simp)) ?_
    refine AW.seqR ?_
    refine Chain.runK [] 2 fun K hK => ?_; simp; refine hK _ _ ?_; clear hK K
    refine Chain.sub (S' := mk 19 [] [(4, .i v6)] []) Sub.tt ?_
    refine Chain.nil ?_
    refine AW.ret ?_
    cases h
    refine blockQ.ret ?_
    refine thenQ_pass (by simp) ?_
    refine PostI.out (by simp) ?_
    rintro rfl
    refine blockQ.ret ?_
    refine PostJ.out (by simp) ?_
    rintro rfl
    refine thenQ_pass (by simp) ?_
    exact FinC.ret (by simp) (by simp)
   ·have c24_ : r23 = false := Bool.eq_false_iff.2 c24
    refine AW.condF (b := r23) rfl c24_ ?_
    refine AW.sub (Sub.bool 16 (b := r23) rfl c24_) ?_
    refine AW.sub (S' := mk 19 [] [(0, .d (.sl (a0.map cS29))), (1, .fn (.func g1) (cs1.map .d)), (5, .i v6), (7, .i (a0.length : Int)), (8, .i v6), (11, .fn (.func g1) (cs1.map .d)), (15, .agg [.i x21.Tx, .d (.lit (.string x21.Table)), .d (.lit (.string x21.Key)), .i x21.Mode]), (16, .b false)] []) (by simp; exact Sub.table (by simp) (by simp)) ?_
    refine AW.skip ?_
    refine blockQ.normal ?_
    refine thenQ_normal ?_
    refine AW.region ?_
    replace h := bsome h; obtain ⟨v25, hv25, h⟩ := h
    have hv25 := chkI_some hv25
    refine Chain.runK [] 2 fun K hK => ?_; simp [hv25]; refine hK _ _ ?_; clear hK K
    refine Chain.sub (S' := mk 19 [] [(0, .d (.sl (a0.map cS29))), (1, .fn (.func g1) (cs1.map .d)), (7, .i (a0.length : Int)), (8, .i v25)] []) Sub.tt ?_
    refine Chain.nil ?_
    cases h
    refine PostI.next ?_
    exact Sub.tt
  ·have c20_ : decide (v6 < (a0.length : Int)) = false := decide_eq_false c20
   refine AW.condF (b := decide (v6 < (a0.length : Int))) rfl c20_ ?_
   refine AW.sub (Sub.bool 9 (b := decide (v6 < (a0.length : Int))) rfl c20_) ?_
   refine AW.sub (S' := mk 19 [] [(0, .d (.sl (a0.map cS29))), (1, .fn (.func g1) (cs1.map .d)), (7, .i (a0.length : Int)), (8, .i v6), (9, .b false)] []) (by simp; exact Sub.table (by simp) (by simp)) ?_
   refine AW.exit ?_
   cases h
   refine thenQ_pass (by simp) ?_
   refine PostI.out (by simp) ?_
   rintro rfl
   refine blockQ.hit ?_
   refine PostJ.next ?_
   exact Sub.tt
 ·rintro ⟨⟩ h
  refine thenQ_normal ?_
  refine AW.seqR ?_
  refine Chain.runK [] 1 fun K hK => ?_; simp; refine hK _ _ ?_; clear hK K
  refine Chain.sub (S' := mk 19 [] [(4, .i (-1))] []) Sub.tt ?_
  refine Chain.nil ?_
  refine AW.ret ?_
  cases h
  exact FinC.ret (by simp) (by simp)

/-- slices.Clone[[]stemma/locks.Lock,stemma/locks.Lock] -/
def d48 (_ : Nat) (a0 : (List S29)) : Option (List S29) := if a0.length * 48 ≤ Rp.reach then some a0 else none
theorem p48 (N : Nat) (a0 : (List S29)) (r : (List S29)) (h : d48 N a0 = some r) : FunO Try.prog 48 [.d (.sl (a0.map cS29))] (.ref 0 0 r.length) (.arr 29 4 (r.map cS29)) := by
 obtain ⟨hz, h⟩ := gsome h
 cases h
 refine FunO.enter 8 [(0, .d (.sl (a0.map cS29)))] Try.func48 rfl (of_decide_eq_true rfl) rfl rfl ?_
 refine AW.goR [] 1 fun K hK => ?_; simp; refine hK _ ?_; clear hK K
 refine AW.seq ?_
 refine AW.seqR ?_
 refine Chain.runK [] 1 fun K hK => ?_; simp; refine hK _ _ ?_; clear hK K
 refine Chain.eqNilE (es := a0.map cS29) (by simp) rfl ty46 rfl (by simp) (by simp) fun b hb => ?_
 refine Chain.nil ?_
 cases b with
 | true =>
  have he : a0 = [] := by
   cases a0 with
   | nil => rfl
   | cons x xs => exact absurd (hb (by simp)) (by simp)
  subst he
  refine AW.condK fun K1 K2 k1 k2 => ?_; simp; refine k1 ?_; clear k1 k2 K1 K2
  refine AW.goR [] 1 fun K hK => ?_; simp; refine hK _ ?_; clear hK K
  refine AW.sub (Sub.nilOwn (t := 2) (id := 902) (T := 29) (n := 4) rfl rfl (by decide)) ?_
  refine AW.sub (S' := mk 8 [] [(2, .ref 902 0 0)] [(902, some (.arr 29 4 []))]) (by simp; exact Sub.table (by simp) (by simp)) ?_
  refine AW.ret ?_
  exact thenQ_pass (by simp) (FinO.ret (.ref 902 0 0) 902 (by simp) (by simp) (by simp) (by simp) rfl)
 | false =>
  refine AW.condK fun K1 K2 k1 k2 => ?_; simp; refine k2 ?_; clear k1 k2 K1 K2
  refine AW.skip ?_
  refine thenQ_normal ?_
  refine AW.goR [] 4 fun K hK => ?_; simp [hz]; refine hK _ ?_; clear hK K
  refine AW.sub (S' := mk 8 [] [(2, .ref 5 0 a0.length)] [(5, R29 a0)]) Sub.tt ?_
  refine AW.ret ?_
  exact FinO.ret (.ref 5 0 a0.length) 5 (by simp) (by simp) (by simp) (by simp) rfl

def d49 (_N : Nat) (a0 : List S29) (p1 : S29 → S29 → Option Int) : Option (List S29) := sortO p1 a0
theorem l49 (N : Nat) (a0 : List S29) (p1 : S29 → S29 → Option Int) (r : List S29) (h : d49 N a0 p1 = some r) : r.length = a0.length := sortO_length p1 h
theorem p49 (N : Nat) (a0 : List S29) (g1 : Nat) (cs1 : List D) (p1 : S29 → S29 → Option Int) (ent_1 : Rp.Enters Try.prog g1) (_ : ∀ a0 a1 r, p1 a0 a1 = some r → FunC Try.prog g1 ([.agg ((cS29 a0).map .d), .agg ((cS29 a1).map .d)] ++ cs1.map .d) (.i r)) (w1 : cs1 = [] ∧ CmpW Try.prog g1 cS29 p1) (r : List S29) (h : d49 N a0 p1 = some r) : FunM Try.prog 49 [.ref 1000 0 a0.length, .fn (.func g1) (cs1.map .d)] [(1000, R29 a0)] [1000] (.tup []) [(1000, .arr 29 4 (r.map cS29))] := by
 obtain ⟨rfl, w1⟩ := w1
 exact sortFunc_funM Try.laysSlF06_f49 (fun w => Try.isAgg29 w) (fun w => Try.sizeOf29 w) cS29 (fun _ => rfl) ent_1 p1 w1 a0 r h

def d59 (_N : Nat) (a0 a1 : ByteArray) : Option Int := some (Lib.compareBytes a0.data.toList a1.data.toList)
theorem p59 (N : Nat) (a0 a1 : ByteArray) (r : Int) (h : d59 N a0 a1 = some r) : FunC Try.prog 59 [.d (.lit (.string a0)), .d (.lit (.string a1))] (.i r) := by
 injection h with h; subst h
 exact FunC.of_calls (vals := [.string a0, .string a1]) (by rintro E w vs ⟨_, _, rfl, ⟨rfl, _⟩, _, _, rfl, ⟨rfl, _⟩, rfl⟩; rfl) rfl (fun w => (Try.bytealg_CompareString a0 a1 w).mono (by rintro e w2 ⟨rfl, rfl⟩; exact ⟨rfl, .refl _ _⟩))

/-- strings.Compare -/
def d51 (N : Nat) (a0 : ByteArray) (a1 : ByteArray) : Option Int :=
 (d59 N a0 a1).bind fun r1 =>
 some r1
set_option maxRecDepth 100000 in
set_option maxHeartbeats 4000000 in
theorem p51 (N : Nat) (a0 : ByteArray) (a1 : ByteArray) (r : Int) (h : d51 N a0 a1 = some r) : FunC Try.prog 51 [.d (.lit (.string a0)), .d (.lit (.string a1))] (.i r) := by
 unfold d51 at h
 refine FunC.enter 8 [(0, .d (.lit (.string a0))), (1, .d (.lit (.string a1)))] (by simp) Try.func51 rfl (of_decide_eq_true rfl) rfl rfl ?_
 refine AW.seqR ?_
 refine Chain.runK [] 1 fun K hK => ?_; simp; refine hK _ _ ?_; clear hK K
 refine Chain.sub (S' := mk 8 [] [(0, .d (.lit (.string a0))), (1, .d (.lit (.string a1)))] []) Sub.tt ?_
 refine Chain.nil ?_
 refine AW.seqR ?_
 refine Chain.runK [] 2 fun K hK => ?_; simp; refine hK _ _ ?_; clear hK K
 refine Chain.sub (S' := mk 8 [] [(5, .d (.lit (.string a0))), (6, .d (.lit (.string a1)))] []) Sub.tt ?_
 replace h := bsome h; obtain ⟨r1, hr1, h⟩ := h
 refine Chain.callL (d := 7) (p59 N a0 a1 r1 hr1) (by simp) rfl rfl (by simp <;> rfl) (by simp <;> rfl) ent59 (by simp <;> rfl) ?_
 refine Chain.sub (S' := mk 8 [] [(5, .d (.lit (.string a0))), (6, .d (.lit (.string a1))), (7, .i r1)] []) (by simp; exact Sub.table (by simp) (by simp)) ?_
 refine Chain.runK [] 1 fun K hK => ?_; simp; refine hK _ _ ?_; clear hK K
 refine Chain.sub (S' := mk 8 [] [(4, .i r1)] []) Sub.tt ?_
 refine Chain.nil ?_
 refine AW.ret ?_
 cases h
 exact FinC.ret (by simp) (by simp)

/-- (*stemma/locks.Manager).Held$1 -/
def d50 (N : Nat) (a0 : S29) (a1 : S29) : Option Int :=
 if (a0.Tx != a1.Tx) then (
  (chkI (a0.Tx - a1.Tx)).bind fun v2 =>
  some v2
 ) else
 (d51 N a0.Table a1.Table).bind fun r3 =>
 if (r3 != 0) then (
  some r3
 ) else
 (d51 N a0.Key a1.Key).bind fun r5 =>
 some r5
set_option maxRecDepth 100000 in
set_option maxHeartbeats 4000000 in
theorem p50 (N : Nat) (a0 : S29) (a1 : S29) (r : Int) (h : d50 N a0 a1 = some r) : FunC Try.prog 50 [.agg [.i a0.Tx, .d (.lit (.string a0.Table)), .d (.lit (.string a0.Key)), .i a0.Mode], .agg [.i a1.Tx, .d (.lit (.string a1.Table)), .d (.lit (.string a1.Key)), .i a1.Mode]] (.i r) := by
 unfold d50 at h
 refine FunC.enter 29 [(0, .agg [.i a0.Tx, .d (.lit (.string a0.Table)), .d (.lit (.string a0.Key)), .i a0.Mode]), (1, .agg [.i a1.Tx, .d (.lit (.string a1.Table)), .d (.lit (.string a1.Key)), .i a1.Mode])] (by simp) Try.func50 rfl (of_decide_eq_true rfl) rfl rfl ?_
 refine AW.seqR ?_
 refine Chain.runK [] 3 fun K hK => ?_; simp; refine hK _ _ ?_; clear hK K
 refine Chain.sub (S' := mk 29 [] [(2, .ptr 2 0 0), (3, .ptr 3 0 0)] [(2, some (.box [.i a0.Tx, .d (.lit (.string a0.Table)), .d (.lit (.string a0.Key)), .i a0.Mode])), (3, some (.box [.i a1.Tx, .d (.lit (.string a1.Table)), .d (.lit (.string a1.Key)), .i a1.Mode]))]) Sub.tt ?_
 refine Chain.nil ?_
 refine AW.seq ?_
 refine AW.seqR ?_
 refine Chain.runK [] 5 fun K hK => ?_; simp; refine hK _ _ ?_; clear hK K
 refine Chain.sub (S' := mk 29 [] [(2, .ptr 2 0 0), (3, .ptr 3 0 0), (10, .b (a0.Tx != a1.Tx))] [(2, some (.box [.i a0.Tx, .d (.lit (.string a0.Table)), .d (.lit (.string a0.Key)), .i a0.Mode])), (3, some (.box [.i a1.Tx, .d (.lit (.string a1.Table)), .d (.lit (.string a1.Key)), .i a1.Mode]))]) Sub.tt ?_
 refine Chain.nil ?_
 replace h := isome h; rcases h with ⟨c1, h⟩ | ⟨c1, h⟩
 ·have c1_ : (a0.Tx != a1.Tx) = true := c1
  refine AW.condT (b := (a0.Tx != a1.Tx)) rfl c1_ ?_
  refine AW.sub (Sub.bool 10 (b := (a0.Tx != a1.Tx)) rfl c1_) ?_
  refine AW.sub (S' := mk 29 [] [(2, .ptr 2 0 0), (3, .ptr 3 0 0), (10, .b true)] [(2, some (.box [.i a0.Tx, .d (.lit (.string a0.Table)), .d (.lit (.string a0.Key)), .i a0.Mode])), (3, some (.box [.i a1.Tx, .d (.lit (.string a1.Table)), .d (.lit (.string a1.Key)), .i a1.Mode]))]) (by simp; exact Sub.table (by simp) (by simp)) ?_
  refine AW.seqR ?_
  replace h := bsome h; obtain ⟨v2, hv2, h⟩ := h
  have hv2 := chkI_some hv2
  refine Chain.runK [] 6 fun K hK => ?_; simp [hv2]; refine hK _ _ ?_; clear hK K
  refine Chain.sub (S' := mk 29 [] [(4, .i v2)] []) Sub.tt ?_
  refine Chain.nil ?_
  refine AW.ret ?_
  cases h
  refine thenQ_pass (by simp) ?_
  exact FinC.ret (by simp) (by simp)
 ·have c1_ : (a0.Tx != a1.Tx) = false := Bool.eq_false_iff.2 c1
  refine AW.condF (b := (a0.Tx != a1.Tx)) rfl c1_ ?_
  refine AW.sub (Sub.bool 10 (b := (a0.Tx != a1.Tx)) rfl c1_) ?_
  refine AW.sub (S' := mk 29 [] [(2, .ptr 2 0 0), (3, .ptr 3 0 0), (10, .b false)] [(2, some (.box [.i a0.Tx, .d (.lit (.string a0.Table)), .d (.lit (.string a0.Key)), .i a0.Mode])), (3, some (.box [.i a1.Tx, .d (.lit (.string a1.Table)), .d (.lit (.string a1.Key)), .i a1.Mode]))]) (by simp; exact Sub.table (by simp) (by simp)) ?_
  refine AW.skip ?_
  refine thenQ_normal ?_
  refine AW.seq ?_
  refine AW.seqR ?_
  refine Chain.runK [] 4 fun K hK => ?_; simp; refine hK _ _ ?_; clear hK K
  refine Chain.sub (S' := mk 29 [] [(2, .ptr 2 0 0), (3, .ptr 3 0 0), (17, .d (.lit (.string a0.Table))), (19, .d (.lit (.string a1.Table)))] [(2, some (.box [.i a0.Tx, .d (.lit (.string a0.Table)), .d (.lit (.string a0.Key)), .i a0.Mode])), (3, some (.box [.i a1.Tx, .d (.lit (.string a1.Table)), .d (.lit (.string a1.Key)), .i a1.Mode]))]) Sub.tt ?_
  replace h := bsome h; obtain ⟨r3, hr3, h⟩ := h
  refine Chain.callL (d := 20) (p51 N a0.Table a1.Table r3 hr3) (by simp) rfl rfl (by simp <;> rfl) (by simp <;> rfl) ent51 (by simp <;> rfl) ?_
  refine Chain.sub (S' := mk 29 [] [(2, .ptr 2 0 0), (3, .ptr 3 0 0), (17, .d (.lit (.string a0.Table))), (19, .d (.lit (.string a1.Table))), (20, .i r3)] [(2, some (.box [.i a0.Tx, .d (.lit (.string a0.Table)), .d (.lit (.string a0.Key)), .i a0.Mode])), (3, some (.box [.i a1.Tx, .d (.lit (.string a1.Table)), .d (.lit (.string a1.Key)), .i a1.Mode]))]) (by simp; exact Sub.table (by simp) (by simp)) ?_
  refine Chain.runK [] 1 fun K hK => ?_; simp; refine hK _ _ ?_; clear hK K
  refine Chain.sub (S' := mk 29 [] [(2, .ptr 2 0 0), (3, .ptr 3 0 0), (5, .i r3)] [(2, some (.box [.i a0.Tx, .d (.lit (.string a0.Table)), .d (.lit (.string a0.Key)), .i a0.Mode])), (3, some (.box [.i a1.Tx, .d (.lit (.string a1.Table)), .d (.lit (.string a1.Key)), .i a1.Mode]))]) Sub.tt ?_
  refine Chain.nil ?_
  refine AW.seqR ?_
  refine Chain.runK [] 2 fun K hK => ?_; simp; refine hK _ _ ?_; clear hK K
  refine Chain.sub (S' := mk 29 [] [(2, .ptr 2 0 0), (3, .ptr 3 0 0), (5, .i r3), (22, .b (r3 != 0))] [(2, some (.box [.i a0.Tx, .d (.lit (.string a0.Table)), .d (.lit (.string a0.Key)), .i a0.Mode])), (3, some (.box [.i a1.Tx, .d (.lit (.string a1.Table)), .d (.lit (.string a1.Key)), .i a1.Mode]))]) Sub.tt ?_
  refine Chain.nil ?_
  replace h := isome h; rcases h with ⟨c4, h⟩ | ⟨c4, h⟩
  ·have c4_ : (r3 != 0) = true := c4
   refine AW.condT (b := (r3 != 0)) rfl c4_ ?_
   refine AW.sub (Sub.bool 22 (b := (r3 != 0)) rfl c4_) ?_
   refine AW.sub (S' := mk 29 [] [(2, .ptr 2 0 0), (3, .ptr 3 0 0), (5, .i r3), (22, .b true)] [(2, some (.box [.i a0.Tx, .d (.lit (.string a0.Table)), .d (.lit (.string a0.Key)), .i a0.Mode])), (3, some (.box [.i a1.Tx, .d (.lit (.string a1.Table)), .d (.lit (.string a1.Key)), .i a1.Mode]))]) (by simp; exact Sub.table (by simp) (by simp)) ?_
   refine AW.seqR ?_
   refine Chain.runK [] 2 fun K hK => ?_; simp; refine hK _ _ ?_; clear hK K
   refine Chain.sub (S' := mk 29 [] [(4, .i r3)] []) Sub.tt ?_
   refine Chain.nil ?_
   refine AW.ret ?_
   cases h
   refine thenQ_pass (by simp) ?_
   exact FinC.ret (by simp) (by simp)
  ·have c4_ : (r3 != 0) = false := Bool.eq_false_iff.2 c4
   refine AW.condF (b := (r3 != 0)) rfl c4_ ?_
   refine AW.sub (Sub.bool 22 (b := (r3 != 0)) rfl c4_) ?_
   refine AW.sub (S' := mk 29 [] [(2, .ptr 2 0 0), (3, .ptr 3 0 0), (5, .i r3), (22, .b false)] [(2, some (.box [.i a0.Tx, .d (.lit (.string a0.Table)), .d (.lit (.string a0.Key)), .i a0.Mode])), (3, some (.box [.i a1.Tx, .d (.lit (.string a1.Table)), .d (.lit (.string a1.Key)), .i a1.Mode]))]) (by simp; exact Sub.table (by simp) (by simp)) ?_
   refine AW.skip ?_
   refine thenQ_normal ?_
   refine AW.seqR ?_
   refine Chain.runK [] 4 fun K hK => ?_; simp; refine hK _ _ ?_; clear hK K
   refine Chain.sub (S' := mk 29 [] [(25, .d (.lit (.string a0.Key))), (27, .d (.lit (.string a1.Key)))] []) Sub.tt ?_
   replace h := bsome h; obtain ⟨r5, hr5, h⟩ := h
   refine Chain.callL (d := 28) (p51 N a0.Key a1.Key r5 hr5) (by simp) rfl rfl (by simp <;> rfl) (by simp <;> rfl) ent51 (by simp <;> rfl) ?_
   refine Chain.sub (S' := mk 29 [] [(25, .d (.lit (.string a0.Key))), (27, .d (.lit (.string a1.Key))), (28, .i r5)] []) (by simp; exact Sub.table (by simp) (by simp)) ?_
   refine Chain.runK [] 1 fun K hK => ?_; simp; refine hK _ _ ?_; clear hK K
   refine Chain.sub (S' := mk 29 [] [(4, .i r5)] []) Sub.tt ?_
   refine Chain.nil ?_
   refine AW.ret ?_
   cases h
   exact FinC.ret (by simp) (by simp)

set_option maxHeartbeats 1000000 in
open Go.RowKit Go.Sort in
theorem w50 (N : Nat) : CmpW Try.prog 50 cS29 (fun b0 b1 => d50 N b0 b1) := by
 rintro ⟨t, a, k, m⟩ ⟨t', a', k', m'⟩ r hr W Z vx vy hx hy
 obtain ⟨_, _, rfl, ⟨rfl, _⟩, _, _, rfl, ⟨rfl, _⟩, _, _, rfl, ⟨rfl, _⟩, _, _, rfl, ⟨rfl, _⟩, rfl⟩ := hx
 obtain ⟨_, _, rfl, ⟨rfl, _⟩, _, _, rfl, ⟨rfl, _⟩, _, _, rfl, ⟨rfl, _⟩, _, _, rfl, ⟨rfl, _⟩, rfl⟩ := hy
 simp only [d50, d51, d59, Option.bind_some] at hr
 by_cases hT : (t != t') = true
 ·simp only [hT, if_true] at hr
  cases hw : chkI (t - t') with
  | none => rw [hw] at hr; cases hr
  | some v =>
   rw [hw] at hr
   simp only [Option.bind_some, Option.some.injEq] at hr
   subst hr
   have hv := chkI_some hw
   clear hw
   have hT2 : (t == t') = false := by simpa using hT
   clear hT
   go_enter Try.func50, Try.ntmps50
   go_wp2
   ·go_ret
    exact ⟨rfl, 0, _, by rw [alloc_eq_grow, alloc_eq_grow, grow_grow]; rfl⟩
 ·simp only [hT, if_false, Bool.false_eq_true] at hr
  have hT2 : (t == t') = true := by simpa using hT
  clear hT
  by_cases hq : (Lib.compareBytes a.data.toList a'.data.toList != 0) = true
  ·simp only [hq, if_true, Option.some.injEq] at hr
   subst hr
   have hq2 : (Lib.compareBytes a.data.toList a'.data.toList == 0) = false := by simpa using hq
   clear hq
   go_enter Try.func50, Try.ntmps50
   go_wp2_with (go_at_call 51; refine (Try.strings_Compare _ _ _).mono ?_; rintro e w' ⟨rfl, rfl⟩)
   ·go_ret
    exact ⟨rfl, 0, _, by rw [alloc_eq_grow, alloc_eq_grow, grow_grow]; rfl⟩
  ·simp only [hq, if_false, Bool.false_eq_true, Option.some.injEq] at hr
   subst hr
   have hq2 : (Lib.compareBytes a.data.toList a'.data.toList == 0) = true := by simpa using hq
   clear hq
   go_enter Try.func50, Try.ntmps50
   go_wp2_with (go_at_call 51; refine (Try.strings_Compare _ _ _).mono ?_; rintro e w' ⟨rfl, rfl⟩)
   ·go_ret
    exact ⟨rfl, 0, _, by rw [alloc_eq_grow, alloc_eq_grow, grow_grow]; rfl⟩

/-- (*stemma/locks.Manager).Held -/
def d36 (N : Nat) (a0 : S48) : Option (List S29) :=
 (d48 N a0.granted).bind fun r1 =>
 (d49 N r1 (fun b0 b1 => d50 N b0 b1 )).bind fun r2 =>
 some r2
set_option maxRecDepth 100000 in
set_option maxHeartbeats 4000000 in
theorem p36 (N : Nat) (a0 : S48) (r : (List S29)) (h : d36 N a0 = some r) : FunO Try.prog 36 [.d (.pim [.sl (a0.granted.map cS29), .sl (a0.queue.map cS29)])] (.ref 0 0 r.length) (.arr 29 4 (r.map cS29)) := by
 unfold d36 at h
 refine FunO.enter 12 [(0, .d (.pim [.sl (a0.granted.map cS29), .sl (a0.queue.map cS29)]))] Try.func36 rfl (of_decide_eq_true rfl) rfl rfl ?_
 refine AW.seqR ?_
 refine Chain.runK [] 1 fun K hK => ?_; simp; refine hK _ _ ?_; clear hK K
 refine Chain.sub (S' := mk 12 [] [(0, .d (.pim [.sl (a0.granted.map cS29), .sl (a0.queue.map cS29)]))] []) Sub.tt ?_
 refine Chain.nil ?_
 refine AW.seqR ?_
 refine Chain.runK [] 4 fun K hK => ?_; simp; refine hK _ _ ?_; clear hK K
 refine Chain.sub (S' := mk 12 [] [(7, .d (.sl (a0.granted.map cS29)))] []) Sub.tt ?_
 replace h := bsome h; obtain ⟨r1, hr1, h⟩ := h
 refine Chain.callO (d := 8) (p48 N a0.granted r1 hr1) (by simp) rfl rfl (by simp <;> rfl) (by simp <;> rfl) ent48 (by simp) ⟨by simp, by simp⟩ ?_
 refine Chain.sub (S' := mk 12 [] [(7, .d (.sl (a0.granted.map cS29))), (8, .ref 8 0 r1.length)] [(8, R29 r1)]) (by simp; exact Sub.table (by simp) (by simp)) ?_
 refine Chain.runK [] 1 fun K hK => ?_; simp; refine hK _ _ ?_; clear hK K
 refine Chain.sub (S' := mk 12 [] [(3, .ref 8 0 r1.length)] [(8, R29 r1)]) Sub.tt ?_
 refine Chain.nil ?_
 refine AW.seqR ?_
 refine Chain.runK [] 1 fun K hK => ?_; simp; refine hK _ _ ?_; clear hK K
 refine Chain.sub (S' := mk 12 [] [(3, .ref 8 0 r1.length), (9, .ref 8 0 r1.length)] [(8, R29 r1)]) Sub.tt ?_
 replace h := bsome h; obtain ⟨r2, hr2, h⟩ := h
 refine Chain.callF (FunM.argsF (args := [.ref 1000 0 r1.length, .d (.lit (.func (.func 50) #[] #[]))]) (p49 N r1 50 [] (fun b0 b1 => d50 N b0 b1 ) ent50 (fun b0 b1 r h => p50 N b0 b1  r h) ⟨rfl, w50 N⟩ r2 hr2) (by simp [V.wf])) [(8, 1000)] [8] [(1000, 8)] [(8, .arr 29 4 (r2.map cS29))] (.tup []) (by simp) rfl (by simp <;> rfl) (by simp) (by simp) (by simp) (by simp) (by simp) ent49 (by simp) (by simp) (by simp) (by simp) (by simp) (by simp) ?_
 have hlr2 := l49 N r1 (fun b0 b1 => d50 N b0 b1 ) r2 hr2
 refine Chain.sub (S' := mk 12 [] [(3, .ref 8 0 r2.length), (9, .ref 8 0 r2.length), (10, .tup [])] [(8, R29 r2)]) (by simp [hlr2]; exact Sub.table (by simp) (by simp)) ?_
 refine Chain.nil ?_
 refine AW.seqR ?_
 refine Chain.runK [] 2 fun K hK => ?_; simp; refine hK _ _ ?_; clear hK K
 refine Chain.sub (S' := mk 12 [] [(2, .ref 8 0 r2.length)] [(8, R29 r2)]) Sub.tt ?_
 refine Chain.nil ?_
 refine AW.ret ?_
 obtain rfl := Option.some.inj h
 exact FinO.ret (.ref 8 0 r2.length) 8 (by simp) (by simp) (by simp) (by simp) rfl

end Go.Proofs.Ytdiekinmoklonaa
