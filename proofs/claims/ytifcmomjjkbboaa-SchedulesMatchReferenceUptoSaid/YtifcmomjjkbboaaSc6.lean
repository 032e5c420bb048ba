/- Functions of the program as functional programs; the code computes them. -/
import Derived.Test.YtifcmomjjkbboaaSc5
namespace Go.Proofs.Ytifcmomjjkbboaa
open Go.Ab Go.Rp
attribute [-simp] List.all_eq_true Array.all_toList Array.all_eq_true

/-- slices.IndexFunc[[]stemma/stemref5.Op,stemma/stemref5.Op] -/
def d15 (N : Nat) (a0 : (List S27)) (p1 : S27 → Option Bool) : Option Int :=
 bindO (β := Unit) (ρ := Int) (
  iterN (σ := Int) (ρ := (Out Unit Int)) (fun (v6 : Int) =>
   if v6 < (a0.length : Int) then (
    (idx a0 v6).bind fun x21 =>
    (p1 x21).bind fun r23 =>
    if r23 = true then (
     some (.inr (.ret v6))
    ) else
    (chkI (v6 + 1)).bind fun v25 =>
    some (.inl v25)
   ) else
   some (.inr (.go ()))
  ) N 0
 ) fun (_ : Unit) =>
 some (-1)
set_option maxRecDepth 100000 in
set_option maxHeartbeats 4000000 in
theorem p15 (N : Nat) (a0 : (List S27)) (g1 : Nat) (cs1 : List D) (p1 : S27 → Option Bool) (ent_1 : Rp.Enters Try.prog g1) (hp1 : ∀ a0 r, p1 a0 = some r → FunC Try.prog g1 ([.agg [.i a0.Tx, .i a0.Kind, .d (.lit (.string a0.Key))]] ++ cs1.map .d) (.b r)) (r : Int) (h : d15 N a0 p1 = some r) : FunC Try.prog 15 [.d (.sl (a0.map cS27)), .fn (.func g1) (cs1.map .d)] (.i r) := by
 unfold d15 at h
 refine FunC.enter 19 [(0, .d (.sl (a0.map cS27))), (1, .fn (.func g1) (cs1.map .d))] (by simp) Try.func15 rfl (of_decide_eq_true rfl) rfl rfl ?_
 refine AW.seqR ?_
 refine Chain.runK [] 1 fun K hK => ?_; simp; refine hK _ _ ?_; clear hK K
 refine Chain.sub (S' := mk 19 [] [(0, .d (.sl (a0.map cS27))), (1, .fn (.func g1) (cs1.map .d))] []) Sub.tt ?_
 refine Chain.nil ?_
 refine AW.seq ?_
 refine AW.seqR ?_
 refine Chain.runK [] 3 fun K hK => ?_; simp; refine hK _ _ ?_; clear hK K
 refine Chain.sub (S' := mk 19 [] [(0, .d (.sl (a0.map cS27))), (1, .fn (.func g1) (cs1.map .d)), (7, .i (a0.length : Int)), (8, .i 0)] []) Sub.tt ?_
 refine Chain.nil ?_
 refine AW.lastJ (fun (_ : Unit) => mk 19 [] [] []) h ?_ ?_ <;> clear h
 ·intro o h
  refine AW.block ?_
  refine AW.iter (fun (v6 : Int) => mk 19 [] [(0, .d (.sl (a0.map cS27))), (1, .fn (.func g1) (cs1.map .d)), (7, .i (a0.length : Int)), (8, .i v6)] []) h Sub.tt ?_
  clear h
  rintro v6 x h
  refine AW.seqR ?_
  refine Chain.runK [] 1 fun K hK => ?_; simp; refine hK _ _ ?_; clear hK K
  refine Chain.sub (S' := mk 19 [] [(0, .d (.sl (a0.map cS27))), (1, .fn (.func g1) (cs1.map .d)), (7, .i (a0.length : Int)), (8, .i v6), (9, .b (decide (v6 < (a0.length : Int))))] []) Sub.tt ?_
  refine Chain.nil ?_
  refine AW.seq ?_
  replace h := isome h; rcases h with ⟨c20, h⟩ | ⟨c20, h⟩
  ·have c20_ : decide (v6 < (a0.length : Int)) = true := decide_eq_true c20
   refine AW.condT (b := decide (v6 < (a0.length : Int))) rfl c20_ ?_
   refine AW.sub (Sub.bool 9 (b := decide (v6 < (a0.length : Int))) rfl c20_) ?_
   refine AW.sub (S' := mk 19 [] [(0, .d (.sl (a0.map cS27))), (1, .fn (.func g1) (cs1.map .d)), (7, .i (a0.length : Int)), (8, .i v6), (9, .b true)] []) (by simp; exact Sub.table (by simp) (by simp)) ?_
   refine AW.skip ?_
   refine thenQ_normal ?_
   refine AW.seq ?_
   refine AW.block ?_
   refine AW.seqR ?_
   refine Chain.runK [] 2 fun K hK => ?_; simp; refine hK _ _ ?_; clear hK K
   refine Chain.sub (S' := mk 19 [] [(0, .d (.sl (a0.map cS27))), (1, .fn (.func g1) (cs1.map .d)), (5, .i v6), (7, .i (a0.length : Int)), (8, .i v6)] []) Sub.tt ?_
   refine Chain.nil ?_
   refine AW.seqR ?_
   replace h := bsome h; obtain ⟨x21, hx21, h⟩ := h
   obtain ⟨k22, hx21k, hx21, hx21a, hx21b⟩ := idx_some hx21
   refine Chain.runK [] 5 fun K hK => ?_; simp [hx21, hx21k, hx21a]; refine hK _ _ ?_; clear hK K
   refine Chain.sub (S' := mk 19 [] [(0, .d (.sl (a0.map cS27))), (1, .fn (.func g1) (cs1.map .d)), (5, .i v6), (7, .i (a0.length : Int)), (8, .i v6), (11, .fn (.func g1) (cs1.map .d)), (15, .agg [.i x21.Tx, .i x21.Kind, .d (.lit (.string x21.Key))])] []) Sub.tt ?_
   replace h := bsome h; obtain ⟨r23, hr23, h⟩ := h
   refine Chain.callL (d := 16) (hp1 x21 r23 hr23) (by simp) rfl rfl (by simp <;> rfl) (by simp <;> rfl) ent_1 (by simp <;> rfl) ?_
   refine Chain.sub (S' := mk 19 [] [(0, .d (.sl (a0.map cS27))), (1, .fn (.func g1) (cs1.map .d)), (5, .i v6), (7, .i (a0.length : Int)), (8, .i v6), (11, .fn (.func g1) (cs1.map .d)), (15, .agg [.i x21.Tx, .i x21.Kind, .d (.lit (.string x21.Key))]), (16, .b r23)] []) (by simp; exact Sub.table (by simp) (by simp)) ?_
   refine Chain.nil ?_
   replace h := isome h; rcases h with ⟨c24, h⟩ | ⟨c24, h⟩
   ·have c24_ : r23 = true := c24
    refine AW.condT (b := r23) rfl c24_ ?_
    refine AW.sub (Sub.bool 16 (b := r23) rfl c24_) ?_
    refine AW.sub (S' := mk 19 [] [(0, .d (.sl (a0.map cS27))), (1, .fn (.func g1) (cs1.map .d)), (5, .i v6), (7, .i (a0.length : Int)), (8, .i v6), (16, .b true)] []) (by simp; exact Sub.table (by simp) (by simp)) ?_
    refine AW.seqR ?_
    refine Chain.runK [] 2 fun K hK => ?_; simp; refine hK _ _ ?_; clear hK K
    refine Chain.sub (S' := mk 19 [] [(4, .i v6)] []) Sub.tt ?_
    refine Chain.nil ?_
    refine AW.ret ?_
    cases h
    refine blockQ.ret ?_
    refine thenQ_pass (by simp) ?_
    refine PostI.out (by simp) ?_
    rintro rfl
    refine blockQ.ret ?_
    refine PostJ.out (by simp) ?_
    rintro rfl
    refine thenQ_pass (by simp) ?_
    exact FinC.ret (by simp) (by simp)
   ·have c24_ : r23 = false := Bool.eq_false_iff.2 c24
    refine AW.condF (b := r23) rfl c24_ ?_
    refine AW.sub (Sub.bool 16 (b := r23) rfl c24_) ?_
    refine AW.sub (S' := mk 19 [] [(0, .d (.sl (a0.map cS27))), (1, .fn (.func g1) (cs1.map .d)), (5, .i v6), (7, .i (a0.length : Int)), (8, .i v6), (16, .b false)] []) (by simp; exact Sub.table (by simp) (by simp)) ?_
    refine AW.skip ?_
    refine blockQ.normal ?_
    refine thenQ_normal ?_
    refine AW.region ?_
    replace h := bsome h; obtain ⟨v25, hv25, h⟩ := h
    have hv25 := chkI_some hv25
    refine Chain.runK [] 2 fun K hK => ?_; simp [hv25]; refine hK _ _ ?_; clear hK K
    refine Chain.sub (S' := mk 19 [] [(0, .d (.sl (a0.map cS27))), (1, .fn (.func g1) (cs1.map .d)), (7, .i (a0.length : Int)), (8, .i v25)] []) Sub.tt ?_
    refine Chain.nil ?_
    cases h
    refine PostI.next ?_
    exact Sub.tt
  ·have c20_ : decide (v6 < (a0.length : Int)) = false := decide_eq_false c20
   refine AW.condF (b := decide (v6 < (a0.length : Int))) rfl c20_ ?_
   refine AW.sub (Sub.bool 9 (b := decide (v6 < (a0.length : Int))) rfl c20_) ?_
   refine AW.sub (S' := mk 19 [] [(0, .d (.sl (a0.map cS27))), (1, .fn (.func g1) (cs1.map .d)), (7, .i (a0.length : Int)), (8, .i v6), (9, .b false)] []) (by simp; exact Sub.table (by simp) (by simp)) ?_
   refine AW.exit ?_
   cases h
   refine thenQ_pass (by simp) ?_
   refine PostI.out (by simp) ?_
   rintro rfl
   refine blockQ.hit ?_
   refine PostJ.next ?_
   exact Sub.tt
 ·rintro ⟨⟩ h
  refine thenQ_normal ?_
  refine AW.seqR ?_
  refine Chain.runK [] 1 fun K hK => ?_; simp; refine hK _ _ ?_; clear hK K
  refine Chain.sub (S' := mk 19 [] [(4, .i (-1))] []) Sub.tt ?_
  refine Chain.nil ?_
  refine AW.ret ?_
  cases h
  exact FinC.ret (by simp) (by simp)

/-- slices.ContainsFunc[[]stemma/stemref5.Op,stemma/stemref5.Op] -/
def d7 (N : Nat) (a0 : (List S27)) (p1 : S27 → Option Bool) : Option Bool :=
 (d15 N a0 p1).bind fun r1 =>
 some (decide (r1 ≥ 0))
set_option maxRecDepth 100000 in
set_option maxHeartbeats 4000000 in
theorem p7 (N : Nat) (a0 : (List S27)) (g1 : Nat) (cs1 : List D) (p1 : S27 → Option Bool) (ent_1 : Rp.Enters Try.prog g1) (hp1 : ∀ a0 r, p1 a0 = some r → FunC Try.prog g1 ([.agg [.i a0.Tx, .i a0.Kind, .d (.lit (.string a0.Key))]] ++ cs1.map .d) (.b r)) (r : Bool) (h : d7 N a0 p1 = some r) : FunC Try.prog 7 [.d (.sl (a0.map cS27)), .fn (.func g1) (cs1.map .d)] (.b r) := by
 unfold d7 at h
 refine FunC.enter 9 [(0, .d (.sl (a0.map cS27))), (1, .fn (.func g1) (cs1.map .d))] (by simp) Try.func7 rfl (of_decide_eq_true rfl) rfl rfl ?_
 refine AW.seqR ?_
 refine Chain.runK [] 1 fun K hK => ?_; simp; refine hK _ _ ?_; clear hK K
 refine Chain.sub (S' := mk 9 [] [(0, .d (.sl (a0.map cS27))), (1, .fn (.func g1) (cs1.map .d))] []) Sub.tt ?_
 refine Chain.nil ?_
 refine AW.seqR ?_
 refine Chain.runK [] 2 fun K hK => ?_; simp; refine hK _ _ ?_; clear hK K
 refine Chain.sub (S' := mk 9 [] [(5, .d (.sl (a0.map cS27))), (6, .fn (.func g1) (cs1.map .d))] []) Sub.tt ?_
 replace h := bsome h; obtain ⟨r1, hr1, h⟩ := h
 refine Chain.callL (d := 7) (p15 N a0 g1 cs1 p1 ent_1 hp1 r1 hr1) (by simp) rfl rfl (by simp <;> rfl) (by simp <;> rfl) ent15 (by simp <;> rfl) ?_
 refine Chain.sub (S' := mk 9 [] [(5, .d (.sl (a0.map cS27))), (6, .fn (.func g1) (cs1.map .d)), (7, .i r1)] []) (by simp; exact Sub.table (by simp) (by simp)) ?_
 refine Chain.runK [] 2 fun K hK => ?_; simp; refine hK _ _ ?_; clear hK K
 refine Chain.sub (S' := mk 9 [] [(4, .b (decide (r1 ≥ 0)))] []) Sub.tt ?_
 refine Chain.nil ?_
 refine AW.ret ?_
 cases h
 exact FinC.ret (by simp) (by simp)

/-- (stemma/stemref5.Op).Conflicts -/
def d19 (_N : Nat) (a0 : S27) (a1 : S27) : Option Bool :=
 Option.bind (α := Bool) (
  if decide (a0.Key = a1.Key) = true then (
   if (a0.Tx != a1.Tx) then (
    (chkI (a0.Kind + a1.Kind)).bind fun v7 =>
    some (decide (v7 > 2))
   ) else
   some false
  ) else
  some false
 ) fun (v4 : Bool) =>
 some v4
set_option maxRecDepth 100000 in
set_option maxHeartbeats 4000000 in
theorem p19 (N : Nat) (a0 : S27) (a1 : S27) (r : Bool) (h : d19 N a0 a1 = some r) : FunC Try.prog 19 [.agg [.i a0.Tx, .i a0.Kind, .d (.lit (.string a0.Key))], .agg [.i a1.Tx, .i a1.Kind, .d (.lit (.string a1.Key))]] (.b r) := by
 unfold d19 at h
 refine FunC.enter 25 [(0, .agg [.i a0.Tx, .i a0.Kind, .d (.lit (.string a0.Key))]), (1, .agg [.i a1.Tx, .i a1.Kind, .d (.lit (.string a1.Key))])] (by simp) Try.func19 rfl (of_decide_eq_true rfl) rfl rfl ?_
 refine AW.seqR ?_
 refine Chain.runK [] 3 fun K hK => ?_; simp; refine hK _ _ ?_; clear hK K
 refine Chain.sub (S' := mk 25 [] [(2, .ptr 2 0 0), (3, .ptr 3 0 0)] [(2, some (.box [.i a0.Tx, .i a0.Kind, .d (.lit (.string a0.Key))])), (3, some (.box [.i a1.Tx, .i a1.Kind, .d (.lit (.string a1.Key))]))]) Sub.tt ?_
 refine Chain.nil ?_
 replace h := bsome h; obtain ⟨v4, hj, h⟩ := h
 refine AW.cutR (mk 25 [] [(4, .b v4)] []) ?_ ?_
 ·clear h; have h := hj; clear hj
  refine Chain.runK [] 6 fun K hK => ?_; simp; refine hK _ _ ?_; clear hK K
  refine Chain.sub (S' := mk 25 [] [(2, .ptr 2 0 0), (3, .ptr 3 0 0), (10, .b (decide (a0.Key = a1.Key)))] [(2, some (.box [.i a0.Tx, .i a0.Kind, .d (.lit (.string a0.Key))])), (3, some (.box [.i a1.Tx, .i a1.Kind, .d (.lit (.string a1.Key))]))]) Sub.tt ?_
  replace h := isome h; rcases h with ⟨c5, h⟩ | ⟨c5, h⟩
  ·have c5_ : decide (a0.Key = a1.Key) = true := c5
   refine Chain.sub (Sub.bool 10 (b := decide (a0.Key = a1.Key)) rfl c5_) ?_
   refine Chain.sub (S' := mk 25 [] [(2, .ptr 2 0 0), (3, .ptr 3 0 0), (10, .b true)] [(2, some (.box [.i a0.Tx, .i a0.Kind, .d (.lit (.string a0.Key))])), (3, some (.box [.i a1.Tx, .i a1.Kind, .d (.lit (.string a1.Key))]))]) (by simp; exact Sub.table (by simp) (by simp)) ?_
   refine Chain.runK [] 7 fun K hK => ?_; simp; refine hK _ _ ?_; clear hK K
   refine Chain.sub (S' := mk 25 [] [(2, .ptr 2 0 0), (3, .ptr 3 0 0), (17, .b (a0.Tx != a1.Tx))] [(2, some (.box [.i a0.Tx, .i a0.Kind, .d (.lit (.string a0.Key))])), (3, some (.box [.i a1.Tx, .i a1.Kind, .d (.lit (.string a1.Key))]))]) Sub.tt ?_
   replace h := isome h; rcases h with ⟨c6, h⟩ | ⟨c6, h⟩
   ·have c6_ : (a0.Tx != a1.Tx) = true := c6
    refine Chain.sub (Sub.bool 17 (b := (a0.Tx != a1.Tx)) rfl c6_) ?_
    refine Chain.sub (S' := mk 25 [] [(2, .ptr 2 0 0), (3, .ptr 3 0 0), (17, .b true)] [(2, some (.box [.i a0.Tx, .i a0.Kind, .d (.lit (.string a0.Key))])), (3, some (.box [.i a1.Tx, .i a1.Kind, .d (.lit (.string a1.Key))]))]) (by simp; exact Sub.table (by simp) (by simp)) ?_
    replace h := bsome h; obtain ⟨v7, hv7, h⟩ := h
    have hv7 := chkI_some hv7
    refine Chain.runK [] 8 fun K hK => ?_; simp [hv7]; refine hK _ _ ?_; clear hK K
    refine Chain.sub (S' := mk 25 [] [(4, .b (decide (v7 > 2)))] []) Sub.tt ?_
    cases h
    exact Chain.nil Sub.tt
   ·have c6_ : (a0.Tx != a1.Tx) = false := Bool.eq_false_iff.2 c6
    refine Chain.sub (Sub.bool 17 (b := (a0.Tx != a1.Tx)) rfl c6_) ?_
    refine Chain.sub (S' := mk 25 [] [(2, .ptr 2 0 0), (3, .ptr 3 0 0), (17, .b false)] [(2, some (.box [.i a0.Tx, .i a0.Kind, .d (.lit (.string a0.Key))])), (3, some (.box [.i a1.Tx, .i a1.Kind, .d (.lit (.string a1.Key))]))]) (by simp; exact Sub.table (by simp) (by simp)) ?_
    refine Chain.runK [] 8 fun K hK => ?_; simp; refine hK _ _ ?_; clear hK K
    refine Chain.sub (S' := mk 25 [] [(4, .b false)] []) Sub.tt ?_
    cases h
    exact Chain.nil Sub.tt
  ·have c5_ : decide (a0.Key = a1.Key) = false := Bool.eq_false_iff.2 c5
   refine Chain.sub (Sub.bool 10 (b := decide (a0.Key = a1.Key)) rfl c5_) ?_
   refine Chain.sub (S' := mk 25 [] [(2, .ptr 2 0 0), (3, .ptr 3 0 0), (10, .b false)] [(2, some (.box [.i a0.Tx, .i a0.Kind, .d (.lit (.string a0.Key))])), (3, some (.box [.i a1.Tx, .i a1.Kind, .d (.lit (.string a1.Key))]))]) (by simp; exact Sub.table (by simp) (by simp)) ?_
   refine Chain.runK [] 15 fun K hK => ?_; simp; refine hK _ _ ?_; clear hK K
   refine Chain.sub (S' := mk 25 [] [(4, .b false)] []) Sub.tt ?_
   cases h
   exact Chain.nil Sub.tt
 ·clear hj
  refine AW.ret ?_
  cases h
  exact FinC.ret (by simp) (by simp)

end Go.Proofs.Ytifcmomjjkbboaa
