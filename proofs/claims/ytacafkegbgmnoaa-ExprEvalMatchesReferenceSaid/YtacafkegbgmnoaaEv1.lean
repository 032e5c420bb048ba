/- Functions of the program as functional programs; the code computes them. -/
import Derived.Test.YtacafkegbgmnoaaEv0
namespace Go.Proofs.Ytacafkegbgmnoaa
open Go.Ab Go.Rp
attribute [-simp] List.all_eq_true Array.all_toList Array.all_eq_true

/-- stemma/expr.Bool -/
def d15 (_N : Nat) (a0 : Bool) : Option S24 :=
 if a0 = true then (
  some (S24.mk 2 1 (ByteArray.mk #[]))
 ) else
 some (S24.mk 2 0 (ByteArray.mk #[]))
set_option maxRecDepth 100000 in
set_option maxHeartbeats 4000000 in
theorem p15 (N : Nat) (a0 : Bool) (r : S24) (h : d15 N a0 = some r) : FunC Try.prog 15 [.d (.lit (.bool a0))] (.agg [.d (.lit (.int .i64 r.Kind)), .d (.lit (.int .i64 r.Int)), .d (.lit (.string r.Text))]) := by
 unfold d15 at h
 refine FunC.enter 6 [(0, .d (.lit (.bool a0)))] (by simp) Try.func15 rfl (of_decide_eq_true rfl) rfl rfl ?_
 refine AW.seqR ?_
 refine Chain.runK [] 1 fun K hK => ?_; simp; refine hK _ _ ?_; clear hK K
 refine Chain.sub (S' := mk 6 [] [(0, .d (.lit (.bool a0))), (2, .ptr 2 0 0)] [(2, some (.box [.d (.lit (.int .i64 0)), .d (.lit (.int .i64 0)), .d (.lit (.string (ByteArray.mk #[])))]))]) Sub.tt ?_
 refine Chain.nil ?_
 refine AW.seq ?_
 refine AW.seqR ?_
 refine Chain.runK [] 1 fun K hK => ?_; simp; refine hK _ _ ?_; clear hK K
 refine Chain.sub (S' := mk 6 [] [(2, .ptr 2 0 0), (3, .d (.lit (.bool a0)))] [(2, some (.box [.d (.lit (.int .i64 0)), .d (.lit (.int .i64 0)), .d (.lit (.string (ByteArray.mk #[])))]))]) Sub.tt ?_
 refine Chain.nil ?_
 replace h := isome h; rcases h with ⟨c1, h⟩ | ⟨c1, h⟩
 ·have c1_ : a0 = true := c1
  refine AW.condT (b := a0) rfl c1_ ?_
  refine AW.sub (Sub.bool 3 (b := a0) rfl c1_) ?_
  refine AW.sub (S' := mk 6 [] [(2, .ptr 2 0 0), (3, .d (.lit (.bool true)))] [(2, some (.box [.d (.lit (.int .i64 0)), .d (.lit (.int .i64 0)), .d (.lit (.string (ByteArray.mk #[])))]))]) (by simp; exact Sub.table (by simp) (by simp)) ?_
  refine AW.seqR ?_
  refine Chain.runK [] 2 fun K hK => ?_; simp; refine hK _ _ ?_; clear hK K
  refine Chain.sub (S' := mk 6 [] [(2, .ptr 2 0 0)] [(2, some (.box [.d (.lit (.int .i64 2)), .d (.lit (.int .i64 1)), .d (.lit (.string (ByteArray.mk #[])))]))]) Sub.tt ?_
  refine Chain.nil ?_
  refine AW.ret ?_
  cases h
  refine thenQ_pass (by simp) ?_
  exact FinC.ret (by simp) (by simp)
 ·have c1_ : a0 = false := Bool.eq_false_iff.2 c1
  refine AW.condF (b := a0) rfl c1_ ?_
  refine AW.sub (Sub.bool 3 (b := a0) rfl c1_) ?_
  refine AW.sub (S' := mk 6 [] [(2, .ptr 2 0 0), (3, .d (.lit (.bool false)))] [(2, some (.box [.d (.lit (.int .i64 0)), .d (.lit (.int .i64 0)), .d (.lit (.string (ByteArray.mk #[])))]))]) (by simp; exact Sub.table (by simp) (by simp)) ?_
  refine AW.skip ?_
  refine thenQ_normal ?_
  refine AW.seqR ?_
  refine Chain.runK [] 2 fun K hK => ?_; simp; refine hK _ _ ?_; clear hK K
  refine Chain.sub (S' := mk 6 [] [(2, .ptr 2 0 0)] [(2, some (.box [.d (.lit (.int .i64 2)), .d (.lit (.int .i64 0)), .d (.lit (.string (ByteArray.mk #[])))]))]) Sub.tt ?_
  refine Chain.nil ?_
  refine AW.ret ?_
  cases h
  exact FinC.ret (by simp) (by simp)

/-- stemma/expr.Eval$1 -/
def d22 (_N : Nat) (a0 : S46) (a1 : S27) : Option Bool :=
 some (decide (a0.Name = a1.Name))
set_option maxRecDepth 100000 in
set_option maxHeartbeats 4000000 in
theorem p22 (N : Nat) (a0 : S46) (a1 : S27) (r : Bool) (h : d22 N a0 a1 = some r) : FunC Try.prog 22 [.agg [.d (.lit (.string a0.Name)), .d (.lit (.int .i64 a0.Kind)), .d (.lit (.bool a0.Nullable))], .d (.pim [.lit (.int .i64 a1.Kind), .lit (.string a1.Name), .lit (.int .i64 a1.Index), .lit (.int .i64 a1.Value.Kind), .lit (.int .i64 a1.Value.Int), .lit (.string a1.Value.Text), .sl (a1.Args.map cS27)])] (.d (.lit (.bool r))) := by
 unfold d22 at h
 refine FunC.enter 9 [(0, .agg [.d (.lit (.string a0.Name)), .d (.lit (.int .i64 a0.Kind)), .d (.lit (.bool a0.Nullable))]), (1, .d (.pim [.lit (.int .i64 a1.Kind), .lit (.string a1.Name), .lit (.int .i64 a1.Index), .lit (.int .i64 a1.Value.Kind), .lit (.int .i64 a1.Value.Int), .lit (.string a1.Value.Text), .sl (a1.Args.map cS27)]))] (by simp) Try.func22 rfl (of_decide_eq_true rfl) rfl rfl ?_
 refine AW.seqR ?_
 refine Chain.runK [] 2 fun K hK => ?_; simp; refine hK _ _ ?_; clear hK K
 refine Chain.sub (S' := mk 9 [] [(1, .d (.pim [.lit (.int .i64 a1.Kind), .lit (.string a1.Name), .lit (.int .i64 a1.Index), .lit (.int .i64 a1.Value.Kind), .lit (.int .i64 a1.Value.Int), .lit (.string a1.Value.Text), .sl (a1.Args.map cS27)])), (2, .ptr 2 0 0)] [(2, some (.box [.d (.lit (.string a0.Name)), .d (.lit (.int .i64 a0.Kind)), .d (.lit (.bool a0.Nullable))]))]) Sub.tt ?_
 refine Chain.nil ?_
 refine AW.seqR ?_
 refine Chain.runK [] 6 fun K hK => ?_; simp; refine hK _ _ ?_; clear hK K
 refine Chain.sub (S' := mk 9 [] [(3, .d (.lit (.bool (decide (a0.Name = a1.Name)))))] []) Sub.tt ?_
 refine Chain.nil ?_
 refine AW.ret ?_
 cases h
 exact FinC.ret (by simp) (by simp)

/-- slices.IndexFunc[[]stemma/api.Column,stemma/api.Column] -/
def d21 (N : Nat) (a0 : (List S46)) (p1 : S46 → Option Bool) : Option Int :=
 bindO (β := Unit) (ρ := Int) (
  iterN (σ := Int) (ρ := (Out Unit Int)) (fun (v6 : Int) =>
   if v6 < (a0.length : Int) then (
    (idx a0 v6).bind fun x21 =>
    (p1 x21).bind fun r23 =>
    if r23 = true then (
     some (.inr (.ret v6))
    ) else
    (chkI (v6 + 1)).bind fun v25 =>
    some (.inl v25)
   ) else
   some (.inr (.go ()))
  ) N 0
 ) fun (_ : Unit) =>
 some (-1)
set_option maxRecDepth 100000 in
set_option maxHeartbeats 4000000 in
theorem p21 (N : Nat) (a0 : (List S46)) (g1 : Nat) (cs1 : List D) (p1 : S46 → Option Bool) (ent_1 : Rp.Enters Try.prog g1) (hp1 : ∀ a0 r, p1 a0 = some r → FunC Try.prog g1 ([.agg [.d (.lit (.string a0.Name)), .d (.lit (.int .i64 a0.Kind)), .d (.lit (.bool a0.Nullable))]] ++ cs1.map .d) (.d (.lit (.bool r)))) (r : Int) (h : d21 N a0 p1 = some r) : FunC Try.prog 21 [.d (.sl (a0.map cS46)), .fn (.func g1) (cs1.map .d)] (.d (.lit (.int .i64 r))) := by
 unfold d21 at h
 refine FunC.enter 19 [(0, .d (.sl (a0.map cS46))), (1, .fn (.func g1) (cs1.map .d))] (by simp) Try.func21 rfl (of_decide_eq_true rfl) rfl rfl ?_
 refine AW.seqR ?_
 refine Chain.runK [] 1 fun K hK => ?_; simp; refine hK _ _ ?_; clear hK K
 refine Chain.sub (S' := mk 19 [] [(0, .d (.sl (a0.map cS46))), (1, .fn (.func g1) (cs1.map .d))] []) Sub.tt ?_
 refine Chain.nil ?_
 refine AW.seq ?_
 refine AW.seqR ?_
 refine Chain.runK [] 3 fun K hK => ?_; simp; refine hK _ _ ?_; clear hK K
 refine Chain.sub (S' := mk 19 [] [(0, .d (.sl (a0.map cS46))), (1, .fn (.func g1) (cs1.map .d)), (7, .d (.lit (.int .i64 (a0.length : Int)))), (8, .d (.lit (.int .i64 0)))] []) Sub.tt ?_
 refine Chain.nil ?_
 refine AW.lastJ (fun (_ : Unit) => mk 19 [] [] []) h ?_ ?_ <;> clear h
 ·intro o h
  refine AW.block ?_
  refine AW.iter (fun (v6 : Int) => mk 19 [] [(0, .d (.sl (a0.map cS46))), (1, .fn (.func g1) (cs1.map .d)), (7, .d (.lit (.int .i64 (a0.length : Int)))), (8, .d (.lit (.int .i64 v6)))] []) h Sub.tt ?_
  clear h
  rintro v6 x h
  refine AW.seqR ?_
  refine Chain.runK [] 1 fun K hK => ?_; simp; refine hK _ _ ?_; clear hK K
  refine Chain.sub (S' := mk 19 [] [(0, .d (.sl (a0.map cS46))), (1, .fn (.func g1) (cs1.map .d)), (7, .d (.lit (.int .i64 (a0.length : Int)))), (8, .d (.lit (.int .i64 v6))), (9, .d (.lit (.bool (decide (v6 < (a0.length : Int))))))] []) Sub.tt ?_
  refine Chain.nil ?_
  refine AW.seq ?_
  replace h := isome h; rcases h with ⟨c20, h⟩ | ⟨c20, h⟩
  ·have c20_ : decide (v6 < (a0.length : Int)) = true := decide_eq_true c20
   refine AW.condT (b := decide (v6 < (a0.length : Int))) rfl c20_ ?_
   refine AW.sub (Sub.bool 9 (b := decide (v6 < (a0.length : Int))) rfl c20_) ?_
   refine AW.sub (S' := mk 19 [] [(0, .d (.sl (a0.map cS46))), (1, .fn (.func g1) (cs1.map .d)), (7, .d (.lit (.int .i64 (a0.length : Int)))), (8, .d (.lit (.int .i64 v6))), (9, .d (.lit (.bool true)))] []) (by simp; exact Sub.table (by simp) (by simp)) ?_
   refine AW.skip ?_
   refine thenQ_normal ?_
   refine AW.seq ?_
   refine AW.block ?_
   refine AW.seqR ?_
   refine Chain.runK [] 2 fun K hK => ?_; simp; refine hK _ _ ?_; clear hK K
   refine Chain.sub (S' := mk 19 [] [(0, .d (.sl (a0.map cS46))), (1, .fn (.func g1) (cs1.map .d)), (5, .d (.lit (.int .i64 v6))), (7, .d (.lit (.int .i64 (a0.length : Int)))), (8, .d (.lit (.int .i64 v6)))] []) Sub.tt ?_
   refine Chain.nil ?_
   refine AW.seqR ?_
   replace h := bsome h; obtain ⟨x21, hx21, h⟩ := h
   obtain ⟨k22, hx21k, hx21, hx21a, hx21b⟩ := idx_some hx21
   refine Chain.runK [] 5 fun K hK => ?_; simp [hx21, hx21k, hx21a]; refine hK _ _ ?_; clear hK K
   refine Chain.sub (S' := mk 19 [] [(0, .d (.sl (a0.map cS46))), (1, .fn (.func g1) (cs1.map .d)), (5, .d (.lit (.int .i64 v6))), (7, .d (.lit (.int .i64 (a0.length : Int)))), (8, .d (.lit (.int .i64 v6))), (11, .fn (.func g1) (cs1.map .d)), (15, .agg [.d (.lit (.string x21.Name)), .d (.lit (.int .i64 x21.Kind)), .d (.lit (.bool x21.Nullable))])] []) Sub.tt ?_
   replace h := bsome h; obtain ⟨r23, hr23, h⟩ := h
   refine Chain.callL (d := 16) (hp1 x21 r23 hr23) (by simp) rfl rfl (by simp <;> rfl) (by simp <;> rfl) ent_1 (by simp <;> rfl) ?_
   refine Chain.sub (S' := mk 19 [] [(0, .d (.sl (a0.map cS46))), (1, .fn (.func g1) (cs1.map .d)), (5, .d (.lit (.int .i64 v6))), (7, .d (.lit (.int .i64 (a0.length : Int)))), (8, .d (.lit (.int .i64 v6))), (11, .fn (.func g1) (cs1.map .d)), (15, .agg [.d (.lit (.string x21.Name)), .d (.lit (.int .i64 x21.Kind)), .d (.lit (.bool x21.Nullable))]), (16, .d (.lit (.bool r23)))] []) (by simp; exact Sub.table (by simp) (by simp)) ?_
   refine Chain.nil ?_
   replace h := isome h; rcases h with ⟨c24, h⟩ | ⟨c24, h⟩
   ·have c24_ : r23 = true := c24
    refine AW.condT (b := r23) rfl c24_ ?_
    refine AW.sub (Sub.bool 16 (b := r23) rfl c24_) ?_
    refine AW.sub (S' := mk 19 [] [(0, .d (.sl (a0.map cS46))), (1, .fn (.func g1) (cs1.map .d)), (5, .d (.lit (.int .i64 v6))), (7, .d (.lit (.int .i64 (a0.length : Int)))), (8, .d (.lit (.int .i64 v6))), (11, .fn (.func g1) (cs1.map .d)), (15, .agg [.d (.lit (.string x21.Name)), .d (.lit (.int .i64 x21.Kind)), .d (.lit (.bool x21.Nullable))]), (16, .d (.lit (.bool true)))] []) (by simp; exact Sub.table (by simp) (by simp)) ?_
    refine AW.seqR ?_
    refine Chain.runK [] 2 fun K hK => ?_; simp; refine hK _ _ ?_; clear hK K
    refine Chain.sub (S' := mk 19 [] [(4, .d (.lit (.int .i64 v6)))] []) Sub.tt ?_
    refine Chain.nil ?_
    refine AW.ret ?_
    cases h
    refine blockQ.ret ?_
    refine thenQ_pass (by simp) ?_
    refine PostI.out (by simp) ?_
    rintro rfl
    refine blockQ.ret ?_
    refine PostJ.out (by simp) ?_
    rintro rfl
    refine thenQ_pass (by simp) ?_
    exact FinC.ret (by simp) (by simp)
   ·have c24_ : r23 = false := Bool.eq_false_iff.2 c24
    refine AW.condF (b := r23) rfl c24_ ?_
    refine AW.sub (Sub.bool 16 (b := r23) rfl c24_) ?_
    refine AW.sub (S' := mk 19 [] [(0, .d (.sl (a0.map cS46))), (1, .fn (.func g1) (cs1.map .d)), (5, .d (.lit (.int .i64 v6))), (7, .d (.lit (.int .i64 (a0.length : Int)))), (8, .d (.lit (.int .i64 v6))), (11, .fn (.func g1) (cs1.map .d)), (15, .agg [.d (.lit (.string x21.Name)), .d (.lit (.int .i64 x21.Kind)), .d (.lit (.bool x21.Nullable))]), (16, .d (.lit (.bool false)))] []) (by simp; exact Sub.table (by simp) (by simp)) ?_
    refine AW.skip ?_
    refine blockQ.normal ?_
    refine thenQ_normal ?_
    refine AW.region ?_
    replace h := bsome h; obtain ⟨v25, hv25, h⟩ := h
    have hv25 := chkI_some hv25
    refine Chain.runK [] 2 fun K hK => ?_; simp [hv25]; refine hK _ _ ?_; clear hK K
    refine Chain.sub (S' := mk 19 [] [(0, .d (.sl (a0.map cS46))), (1, .fn (.func g1) (cs1.map .d)), (7, .d (.lit (.int .i64 (a0.length : Int)))), (8, .d (.lit (.int .i64 v25)))] []) Sub.tt ?_
    refine Chain.nil ?_
    cases h
    refine PostI.next ?_
    exact Sub.tt
  ·have c20_ : decide (v6 < (a0.length : Int)) = false := decide_eq_false c20
   refine AW.condF (b := decide (v6 < (a0.length : Int))) rfl c20_ ?_
   refine AW.sub (Sub.bool 9 (b := decide (v6 < (a0.length : Int))) rfl c20_) ?_
   refine AW.sub (S' := mk 19 [] [(0, .d (.sl (a0.map cS46))), (1, .fn (.func g1) (cs1.map .d)), (7, .d (.lit (.int .i64 (a0.length : Int)))), (8, .d (.lit (.int .i64 v6))), (9, .d (.lit (.bool false)))] []) (by simp; exact Sub.table (by simp) (by simp)) ?_
   refine AW.exit ?_
   cases h
   refine thenQ_pass (by simp) ?_
   refine PostI.out (by simp) ?_
   rintro rfl
   refine blockQ.hit ?_
   refine PostJ.next ?_
   exact Sub.tt
 ·rintro ⟨⟩ h
  refine thenQ_normal ?_
  refine AW.seqR ?_
  refine Chain.runK [] 1 fun K hK => ?_; simp; refine hK _ _ ?_; clear hK K
  refine Chain.sub (S' := mk 19 [] [(4, .d (.lit (.int .i64 (-1))))] []) Sub.tt ?_
  refine Chain.nil ?_
  refine AW.ret ?_
  cases h
  exact FinC.ret (by simp) (by simp)

/-- slices.Index[[]string,string] -/
def d23 (N : Nat) (a0 : (List ByteArray)) (a1 : ByteArray) : Option Int :=
 bindO (β := Unit) (ρ := Int) (
  iterN (σ := Int) (ρ := (Out Unit Int)) (fun (v5 : Int) =>
   if v5 < (a0.length : Int) then (
    (idx a0 v5).bind fun x18 =>
    if decide (a1 = x18) = true then (
     some (.inr (.ret v5))
    ) else
    (chkI (v5 + 1)).bind fun v21 =>
    some (.inl v21)
   ) else
   some (.inr (.go ()))
  ) N 0
 ) fun (_ : Unit) =>
 some (-1)
set_option maxRecDepth 100000 in
set_option maxHeartbeats 4000000 in
theorem p23 (N : Nat) (a0 : (List ByteArray)) (a1 : ByteArray) (r : Int) (h : d23 N a0 a1 = some r) : FunC Try.prog 23 [.d (.sl (a0.map cS)), .d (.lit (.string a1))] (.d (.lit (.int .i64 r))) := by
 unfold d23 at h
 refine FunC.enter 19 [(0, .d (.sl (a0.map cS))), (1, .d (.lit (.string a1)))] (by simp) Try.func23 rfl (of_decide_eq_true rfl) rfl rfl ?_
 refine AW.seqR ?_
 refine Chain.runK [] 1 fun K hK => ?_; simp; refine hK _ _ ?_; clear hK K
 refine Chain.sub (S' := mk 19 [] [(0, .d (.sl (a0.map cS))), (1, .d (.lit (.string a1)))] []) Sub.tt ?_
 refine Chain.nil ?_
 refine AW.seq ?_
 refine AW.seqR ?_
 refine Chain.runK [] 3 fun K hK => ?_; simp; refine hK _ _ ?_; clear hK K
 refine Chain.sub (S' := mk 19 [] [(0, .d (.sl (a0.map cS))), (1, .d (.lit (.string a1))), (7, .d (.lit (.int .i64 (a0.length : Int)))), (8, .d (.lit (.int .i64 0)))] []) Sub.tt ?_
 refine Chain.nil ?_
 refine AW.lastJ (fun (_ : Unit) => mk 19 [] [] []) h ?_ ?_ <;> clear h
 ·intro o h
  refine AW.block ?_
  refine AW.iter (fun (v5 : Int) => mk 19 [] [(0, .d (.sl (a0.map cS))), (1, .d (.lit (.string a1))), (7, .d (.lit (.int .i64 (a0.length : Int)))), (8, .d (.lit (.int .i64 v5)))] []) h Sub.tt ?_
  clear h
  rintro v5 x h
  refine AW.seqR ?_
  refine Chain.runK [] 1 fun K hK => ?_; simp; refine hK _ _ ?_; clear hK K
  refine Chain.sub (S' := mk 19 [] [(0, .d (.sl (a0.map cS))), (1, .d (.lit (.string a1))), (7, .d (.lit (.int .i64 (a0.length : Int)))), (8, .d (.lit (.int .i64 v5))), (9, .d (.lit (.bool (decide (v5 < (a0.length : Int))))))] []) Sub.tt ?_
  refine Chain.nil ?_
  refine AW.seq ?_
  replace h := isome h; rcases h with ⟨c17, h⟩ | ⟨c17, h⟩
  ·have c17_ : decide (v5 < (a0.length : Int)) = true := decide_eq_true c17
   refine AW.condT (b := decide (v5 < (a0.length : Int))) rfl c17_ ?_
   refine AW.sub (Sub.bool 9 (b := decide (v5 < (a0.length : Int))) rfl c17_) ?_
   refine AW.sub (S' := mk 19 [] [(0, .d (.sl (a0.map cS))), (1, .d (.lit (.string a1))), (7, .d (.lit (.int .i64 (a0.length : Int)))), (8, .d (.lit (.int .i64 v5))), (9, .d (.lit (.bool true)))] []) (by simp; exact Sub.table (by simp) (by simp)) ?_
   refine AW.skip ?_
   refine thenQ_normal ?_
   refine AW.seq ?_
   refine AW.block ?_
   refine AW.seqR ?_
   refine Chain.runK [] 2 fun K hK => ?_; simp; refine hK _ _ ?_; clear hK K
   refine Chain.sub (S' := mk 19 [] [(0, .d (.sl (a0.map cS))), (1, .d (.lit (.string a1))), (5, .d (.lit (.int .i64 v5))), (7, .d (.lit (.int .i64 (a0.length : Int)))), (8, .d (.lit (.int .i64 v5)))] []) Sub.tt ?_
   refine Chain.nil ?_
   refine AW.seqR ?_
   replace h := bsome h; obtain ⟨x18, hx18, h⟩ := h
   obtain ⟨k19, hx18k, hx18, hx18a, hx18b⟩ := idx_some hx18
   refine Chain.runK [] 6 fun K hK => ?_; simp [hx18, hx18k, hx18a]; refine hK _ _ ?_; clear hK K
   refine Chain.sub (S' := mk 19 [] [(0, .d (.sl (a0.map cS))), (1, .d (.lit (.string a1))), (5, .d (.lit (.int .i64 v5))), (7, .d (.lit (.int .i64 (a0.length : Int)))), (8, .d (.lit (.int .i64 v5))), (16, .d (.lit (.bool (decide (a1 = x18)))))] []) Sub.tt ?_
   refine Chain.nil ?_
   replace h := isome h; rcases h with ⟨c20, h⟩ | ⟨c20, h⟩
   ·have c20_ : decide (a1 = x18) = true := c20
    refine AW.condT (b := decide (a1 = x18)) rfl c20_ ?_
    refine AW.sub (Sub.bool 16 (b := decide (a1 = x18)) rfl c20_) ?_
    refine AW.sub (S' := mk 19 [] [(0, .d (.sl (a0.map cS))), (1, .d (.lit (.string a1))), (5, .d (.lit (.int .i64 v5))), (7, .d (.lit (.int .i64 (a0.length : Int)))), (8, .d (.lit (.int .i64 v5))), (16, .d (.lit (.bool true)))] []) (by simp; exact Sub.table (by simp) (by simp)) ?_
    refine AW.seqR ?_
    refine Chain.runK [] 2 fun K hK => ?_; simp; refine hK _ _ ?_; clear hK K
    refine Chain.sub (S' := mk 19 [] [(4, .d (.lit (.int .i64 v5)))] []) Sub.tt ?_
    refine Chain.nil ?_
    refine AW.ret ?_
    cases h
    refine blockQ.ret ?_
    refine thenQ_pass (by simp) ?_
    refine PostI.out (by simp) ?_
    rintro rfl
    refine blockQ.ret ?_
    refine PostJ.out (by simp) ?_
    rintro rfl
    refine thenQ_pass (by simp) ?_
    exact FinC.ret (by simp) (by simp)
   ·have c20_ : decide (a1 = x18) = false := Bool.eq_false_iff.2 c20
    refine AW.condF (b := decide (a1 = x18)) rfl c20_ ?_
    refine AW.sub (Sub.bool 16 (b := decide (a1 = x18)) rfl c20_) ?_
    refine AW.sub (S' := mk 19 [] [(0, .d (.sl (a0.map cS))), (1, .d (.lit (.string a1))), (5, .d (.lit (.int .i64 v5))), (7, .d (.lit (.int .i64 (a0.length : Int)))), (8, .d (.lit (.int .i64 v5))), (16, .d (.lit (.bool false)))] []) (by simp; exact Sub.table (by simp) (by simp)) ?_
    refine AW.skip ?_
    refine blockQ.normal ?_
    refine thenQ_normal ?_
    refine AW.region ?_
    replace h := bsome h; obtain ⟨v21, hv21, h⟩ := h
    have hv21 := chkI_some hv21
    refine Chain.runK [] 2 fun K hK => ?_; simp [hv21]; refine hK _ _ ?_; clear hK K
    refine Chain.sub (S' := mk 19 [] [(0, .d (.sl (a0.map cS))), (1, .d (.lit (.string a1))), (7, .d (.lit (.int .i64 (a0.length : Int)))), (8, .d (.lit (.int .i64 v21)))] []) Sub.tt ?_
    refine Chain.nil ?_
    cases h
    refine PostI.next ?_
    exact Sub.tt
  ·have c17_ : decide (v5 < (a0.length : Int)) = false := decide_eq_false c17
   refine AW.condF (b := decide (v5 < (a0.length : Int))) rfl c17_ ?_
   refine AW.sub (Sub.bool 9 (b := decide (v5 < (a0.length : Int))) rfl c17_) ?_
   refine AW.sub (S' := mk 19 [] [(0, .d (.sl (a0.map cS))), (1, .d (.lit (.string a1))), (7, .d (.lit (.int .i64 (a0.length : Int)))), (8, .d (.lit (.int .i64 v5))), (9, .d (.lit (.bool false)))] []) (by simp; exact Sub.table (by simp) (by simp)) ?_
   refine AW.exit ?_
   cases h
   refine thenQ_pass (by simp) ?_
   refine PostI.out (by simp) ?_
   rintro rfl
   refine blockQ.hit ?_
   refine PostJ.next ?_
   exact Sub.tt
 ·rintro ⟨⟩ h
  refine thenQ_normal ?_
  refine AW.seqR ?_
  refine Chain.runK [] 1 fun K hK => ?_; simp; refine hK _ _ ?_; clear hK K
  refine Chain.sub (S' := mk 19 [] [(4, .d (.lit (.int .i64 (-1))))] []) Sub.tt ?_
  refine Chain.nil ?_
  refine AW.ret ?_
  cases h
  exact FinC.ret (by simp) (by simp)

/-- stemma/expr.Operators -/
def d35 (_N : Nat)  : Option ((List ByteArray) × (List Int)) :=
 some (([(ByteArray.mk #[43]), (ByteArray.mk #[45]), (ByteArray.mk #[42]), (ByteArray.mk #[61]), (ByteArray.mk #[60]), (ByteArray.mk #[60, 61]), (ByteArray.mk #[97, 110, 100]), (ByteArray.mk #[111, 114]), (ByteArray.mk #[110, 111, 116]), (ByteArray.mk #[124, 124]), (ByteArray.mk #[105, 115, 32, 110, 117, 108, 108]), (ByteArray.mk #[108, 101, 110, 103, 116, 104]), (ByteArray.mk #[105, 102])] : List ByteArray), ([2, 2, 2, 2, 2, 2, 2, 2, 1, 2, 1, 1, 3] : List Int))
set_option maxRecDepth 100000 in
set_option maxHeartbeats 4000000 in
theorem p35 (N : Nat)  (r : ((List ByteArray) × (List Int))) (h : d35 N  = some r) : FunC Try.prog 35 [] (.tup [.d (.sl (r.1.map cS)), .d (.sl (r.2.map (cI .i64)))]) := by
 unfold d35 at h
 refine FunC.enter 4 [] (by simp) Try.func35 rfl (of_decide_eq_true rfl) rfl rfl ?_
 refine AW.seqR ?_
 refine Chain.runK [] 2 fun K hK => ?_; simp; refine hK _ _ ?_; clear hK K
 refine Chain.sub (S' := mk 4 [] [] []) Sub.tt ?_
 refine Chain.nil ?_
 refine AW.seqR ?_
 refine Chain.runK [] 4 fun K hK => ?_; simp; refine hK _ _ ?_; clear hK K
 refine Chain.sub (S' := mk 4 [] [(0, .ref 2 0 (([(ByteArray.mk #[43]), (ByteArray.mk #[45]), (ByteArray.mk #[42]), (ByteArray.mk #[61]), (ByteArray.mk #[60]), (ByteArray.mk #[60, 61]), (ByteArray.mk #[97, 110, 100]), (ByteArray.mk #[111, 114]), (ByteArray.mk #[110, 111, 116]), (ByteArray.mk #[124, 124]), (ByteArray.mk #[105, 115, 32, 110, 117, 108, 108]), (ByteArray.mk #[108, 101, 110, 103, 116, 104]), (ByteArray.mk #[105, 102])] : List ByteArray).length)), (1, .ref 3 0 (([2, 2, 2, 2, 2, 2, 2, 2, 1, 2, 1, 1, 3] : List Int).length))] [(2, some (.arr 9 1 (([(ByteArray.mk #[43]), (ByteArray.mk #[45]), (ByteArray.mk #[42]), (ByteArray.mk #[61]), (ByteArray.mk #[60]), (ByteArray.mk #[60, 61]), (ByteArray.mk #[97, 110, 100]), (ByteArray.mk #[111, 114]), (ByteArray.mk #[110, 111, 116]), (ByteArray.mk #[124, 124]), (ByteArray.mk #[105, 115, 32, 110, 117, 108, 108]), (ByteArray.mk #[108, 101, 110, 103, 116, 104]), (ByteArray.mk #[105, 102])] : List ByteArray).map cS))), (3, some (.arr 3 1 (([2, 2, 2, 2, 2, 2, 2, 2, 1, 2, 1, 1, 3] : List Int).map (cI .i64))))]) Sub.tt ?_
 refine Chain.nil ?_
 refine AW.sub (Sub.freeze 2 rfl) ?_
 refine AW.sub (S' := mk 4 [] [(0, .d (.sl (([(ByteArray.mk #[43]), (ByteArray.mk #[45]), (ByteArray.mk #[42]), (ByteArray.mk #[61]), (ByteArray.mk #[60]), (ByteArray.mk #[60, 61]), (ByteArray.mk #[97, 110, 100]), (ByteArray.mk #[111, 114]), (ByteArray.mk #[110, 111, 116]), (ByteArray.mk #[124, 124]), (ByteArray.mk #[105, 115, 32, 110, 117, 108, 108]), (ByteArray.mk #[108, 101, 110, 103, 116, 104]), (ByteArray.mk #[105, 102])] : List ByteArray).map cS))), (1, .ref 3 0 (([2, 2, 2, 2, 2, 2, 2, 2, 1, 2, 1, 1, 3] : List Int).length))] [(3, some (.arr 3 1 (([2, 2, 2, 2, 2, 2, 2, 2, 1, 2, 1, 1, 3] : List Int).map (cI .i64))))]) (by simp; exact Sub.table (by simp) (by simp)) ?_
 refine AW.sub (Sub.freeze 3 rfl) ?_
 refine AW.sub (S' := mk 4 [] [(0, .d (.sl (([(ByteArray.mk #[43]), (ByteArray.mk #[45]), (ByteArray.mk #[42]), (ByteArray.mk #[61]), (ByteArray.mk #[60]), (ByteArray.mk #[60, 61]), (ByteArray.mk #[97, 110, 100]), (ByteArray.mk #[111, 114]), (ByteArray.mk #[110, 111, 116]), (ByteArray.mk #[124, 124]), (ByteArray.mk #[105, 115, 32, 110, 117, 108, 108]), (ByteArray.mk #[108, 101, 110, 103, 116, 104]), (ByteArray.mk #[105, 102])] : List ByteArray).map cS))), (1, .d (.sl (([2, 2, 2, 2, 2, 2, 2, 2, 1, 2, 1, 1, 3] : List Int).map (cI .i64))))] []) (by simp; exact Sub.table (by simp) (by simp)) ?_
 refine AW.ret ?_
 cases h
 exact FinC.ret (by simp) (by simp)

/-- stemma/expr.IsTrue -/
def d14 (_N : Nat) (a0 : S24) : Option Bool :=
 Option.bind (α := Bool) (
  if (a0.Kind == 2) then (
   some (a0.Int == 1)
  ) else
  some false
 ) fun (v2 : Bool) =>
 some v2
set_option maxRecDepth 100000 in
set_option maxHeartbeats 4000000 in
theorem p14 (N : Nat) (a0 : S24) (r : Bool) (h : d14 N a0 = some r) : FunC Try.prog 14 [.agg [.d (.lit (.int .i64 a0.Kind)), .d (.lit (.int .i64 a0.Int)), .d (.lit (.string a0.Text))]] (.d (.lit (.bool r))) := by
 unfold d14 at h
 refine FunC.enter 11 [(0, .agg [.d (.lit (.int .i64 a0.Kind)), .d (.lit (.int .i64 a0.Int)), .d (.lit (.string a0.Text))])] (by simp) Try.func14 rfl (of_decide_eq_true rfl) rfl rfl ?_
 refine AW.seqR ?_
 refine Chain.runK [] 2 fun K hK => ?_; simp; refine hK _ _ ?_; clear hK K
 refine Chain.sub (S' := mk 11 [] [(1, .ptr 1 0 0)] [(1, some (.box [.d (.lit (.int .i64 a0.Kind)), .d (.lit (.int .i64 a0.Int)), .d (.lit (.string a0.Text))]))]) Sub.tt ?_
 refine Chain.nil ?_
 replace h := bsome h; obtain ⟨v2, hj, h⟩ := h
 refine AW.cutR (mk 11 [] [(2, .d (.lit (.bool v2)))] []) ?_ ?_
 ·clear h; have h := hj; clear hj
  refine Chain.runK [] 4 fun K hK => ?_; simp; refine hK _ _ ?_; clear hK K
  refine Chain.sub (S' := mk 11 [] [(1, .ptr 1 0 0), (6, .d (.lit (.bool (a0.Kind == 2))))] [(1, some (.box [.d (.lit (.int .i64 a0.Kind)), .d (.lit (.int .i64 a0.Int)), .d (.lit (.string a0.Text))]))]) Sub.tt ?_
  replace h := isome h; rcases h with ⟨c3, h⟩ | ⟨c3, h⟩
  ·have c3_ : (a0.Kind == 2) = true := c3
   refine Chain.sub (Sub.bool 6 (b := (a0.Kind == 2)) rfl c3_) ?_
   refine Chain.sub (S' := mk 11 [] [(1, .ptr 1 0 0), (6, .d (.lit (.bool true)))] [(1, some (.box [.d (.lit (.int .i64 a0.Kind)), .d (.lit (.int .i64 a0.Int)), .d (.lit (.string a0.Text))]))]) (by simp; exact Sub.table (by simp) (by simp)) ?_
   refine Chain.runK [] 5 fun K hK => ?_; simp; refine hK _ _ ?_; clear hK K
   refine Chain.sub (S' := mk 11 [] [(2, .d (.lit (.bool (a0.Int == 1))))] []) Sub.tt ?_
   cases h
   exact Chain.nil Sub.tt
  ·have c3_ : (a0.Kind == 2) = false := Bool.eq_false_iff.2 c3
   refine Chain.sub (Sub.bool 6 (b := (a0.Kind == 2)) rfl c3_) ?_
   refine Chain.sub (S' := mk 11 [] [(1, .ptr 1 0 0), (6, .d (.lit (.bool false)))] [(1, some (.box [.d (.lit (.int .i64 a0.Kind)), .d (.lit (.int .i64 a0.Int)), .d (.lit (.string a0.Text))]))]) (by simp; exact Sub.table (by simp) (by simp)) ?_
   refine Chain.runK [] 5 fun K hK => ?_; simp; refine hK _ _ ?_; clear hK K
   refine Chain.sub (S' := mk 11 [] [(2, .d (.lit (.bool false)))] []) Sub.tt ?_
   cases h
   exact Chain.nil Sub.tt
 ·clear hj
  refine AW.ret ?_
  cases h
  exact FinC.ret (by simp) (by simp)

/-- stemma/expr.both$1 -/
def d51 (_N : Nat) (a0 : S24) (a1 : Int) : Option Bool :=
 Option.bind (α := Bool) (
  if (a0.Kind == 2) then (
   some (a0.Int == a1)
  ) else
  some false
 ) fun (v2 : Bool) =>
 some v2
set_option maxRecDepth 100000 in
set_option maxHeartbeats 4000000 in
theorem p51 (N : Nat) (a0 : S24) (a1 : Int) (r : Bool) (h : d51 N a0 a1 = some r) : FunC Try.prog 51 [.agg [.d (.lit (.int .i64 a0.Kind)), .d (.lit (.int .i64 a0.Int)), .d (.lit (.string a0.Text))], .d (.lit (.int .i64 a1))] (.d (.lit (.bool r))) := by
 unfold d51 at h
 refine FunC.enter 14 [(0, .agg [.d (.lit (.int .i64 a0.Kind)), .d (.lit (.int .i64 a0.Int)), .d (.lit (.string a0.Text))]), (1, .d (.lit (.int .i64 a1)))] (by simp) Try.func51 rfl (of_decide_eq_true rfl) rfl rfl ?_
 refine AW.seqR ?_
 refine Chain.runK [] 2 fun K hK => ?_; simp; refine hK _ _ ?_; clear hK K
 refine Chain.sub (S' := mk 14 [] [(1, .d (.lit (.int .i64 a1))), (2, .ptr 2 0 0)] [(2, some (.box [.d (.lit (.int .i64 a0.Kind)), .d (.lit (.int .i64 a0.Int)), .d (.lit (.string a0.Text))]))]) Sub.tt ?_
 refine Chain.nil ?_
 replace h := bsome h; obtain ⟨v2, hj, h⟩ := h
 refine AW.cutR (mk 14 [] [(4, .d (.lit (.bool v2)))] []) ?_ ?_
 ·clear h; have h := hj; clear hj
  refine Chain.runK [] 4 fun K hK => ?_; simp; refine hK _ _ ?_; clear hK K
  refine Chain.sub (S' := mk 14 [] [(1, .d (.lit (.int .i64 a1))), (2, .ptr 2 0 0), (8, .d (.lit (.bool (a0.Kind == 2))))] [(2, some (.box [.d (.lit (.int .i64 a0.Kind)), .d (.lit (.int .i64 a0.Int)), .d (.lit (.string a0.Text))]))]) Sub.tt ?_
  replace h := isome h; rcases h with ⟨c3, h⟩ | ⟨c3, h⟩
  ·have c3_ : (a0.Kind == 2) = true := c3
   refine Chain.sub (Sub.bool 8 (b := (a0.Kind == 2)) rfl c3_) ?_
   refine Chain.sub (S' := mk 14 [] [(1, .d (.lit (.int .i64 a1))), (2, .ptr 2 0 0), (8, .d (.lit (.bool true)))] [(2, some (.box [.d (.lit (.int .i64 a0.Kind)), .d (.lit (.int .i64 a0.Int)), .d (.lit (.string a0.Text))]))]) (by simp; exact Sub.table (by simp) (by simp)) ?_
   refine Chain.runK [] 6 fun K hK => ?_; simp; refine hK _ _ ?_; clear hK K
   refine Chain.sub (S' := mk 14 [] [(4, .d (.lit (.bool (a0.Int == a1))))] []) Sub.tt ?_
   cases h
   exact Chain.nil Sub.tt
  ·have c3_ : (a0.Kind == 2) = false := Bool.eq_false_iff.2 c3
   refine Chain.sub (Sub.bool 8 (b := (a0.Kind == 2)) rfl c3_) ?_
   refine Chain.sub (S' := mk 14 [] [(1, .d (.lit (.int .i64 a1))), (2, .ptr 2 0 0), (8, .d (.lit (.bool false)))] [(2, some (.box [.d (.lit (.int .i64 a0.Kind)), .d (.lit (.int .i64 a0.Int)), .d (.lit (.string a0.Text))]))]) (by simp; exact Sub.table (by simp) (by simp)) ?_
   refine Chain.runK [] 6 fun K hK => ?_; simp; refine hK _ _ ?_; clear hK K
   refine Chain.sub (S' := mk 14 [] [(4, .d (.lit (.bool false)))] []) Sub.tt ?_
   cases h
   exact Chain.nil Sub.tt
 ·clear hj
  refine AW.ret ?_
  cases h
  exact FinC.ret (by simp) (by simp)

/-- stemma/expr.both -/
def d36 (N : Nat) (a0 : S24) (a1 : S24) (a2 : Int) : Option S24 :=
 Option.bind (α := Bool) (
  (d51 N a0 a2).bind fun r5 =>
  if r5 = true then (
   some true
  ) else
  (d51 N a1 a2).bind fun r7 =>
  some r7
 ) fun (v4 : Bool) =>
 if v4 = true then (
  (d15 N (a2 == 1)).bind fun r9 =>
  some r9
 ) else
 Option.bind (α := Bool) (
  (chkI (1 - a2)).bind fun v16 =>
  (d51 N a0 v16).bind fun r17 =>
  if r17 = true then (
   (chkI (1 - a2)).bind fun v19 =>
   (d51 N a1 v19).bind fun r20 =>
   some r20
  ) else
  some false
 ) fun (v15 : Bool) =>
 if v15 = true then (
  (d15 N (a2 == 0)).bind fun r22 =>
  some r22
 ) else
 some (S24.mk 0 0 (ByteArray.mk #[]))
set_option maxRecDepth 100000 in
set_option maxHeartbeats 4000000 in
theorem p36 (N : Nat) (a0 : S24) (a1 : S24) (a2 : Int) (r : S24) (h : d36 N a0 a1 a2 = some r) : FunC Try.prog 36 [.agg [.d (.lit (.int .i64 a0.Kind)), .d (.lit (.int .i64 a0.Int)), .d (.lit (.string a0.Text))], .agg [.d (.lit (.int .i64 a1.Kind)), .d (.lit (.int .i64 a1.Int)), .d (.lit (.string a1.Text))], .d (.lit (.int .i64 a2))] (.agg [.d (.lit (.int .i64 r.Kind)), .d (.lit (.int .i64 r.Int)), .d (.lit (.string r.Text))]) := by
 unfold d36 at h
 refine FunC.enter 39 [(0, .agg [.d (.lit (.int .i64 a0.Kind)), .d (.lit (.int .i64 a0.Int)), .d (.lit (.string a0.Text))]), (1, .agg [.d (.lit (.int .i64 a1.Kind)), .d (.lit (.int .i64 a1.Int)), .d (.lit (.string a1.Text))]), (2, .d (.lit (.int .i64 a2)))] (by simp) Try.func36 rfl (of_decide_eq_true rfl) rfl rfl ?_
 refine AW.seqR ?_
 refine Chain.runK [] 3 fun K hK => ?_; simp; refine hK _ _ ?_; clear hK K
 refine Chain.sub (S' := mk 39 [] [(2, .d (.lit (.int .i64 a2))), (3, .ptr 3 0 0), (4, .ptr 4 0 0), (6, .ptr 6 0 0)] [(3, some (.box [.d (.lit (.int .i64 a0.Kind)), .d (.lit (.int .i64 a0.Int)), .d (.lit (.string a0.Text))])), (4, some (.box [.d (.lit (.int .i64 a1.Kind)), .d (.lit (.int .i64 a1.Int)), .d (.lit (.string a1.Text))])), (6, some (.box [.d (.lit (.int .i64 0)), .d (.lit (.int .i64 0)), .d (.lit (.string (ByteArray.mk #[])))]))]) Sub.tt ?_
 refine Chain.nil ?_
 refine AW.seqR ?_
 refine Chain.runK [] 1 fun K hK => ?_; simp; refine hK _ _ ?_; clear hK K
 refine Chain.sub (S' := mk 39 [] [(2, .d (.lit (.int .i64 a2))), (3, .ptr 3 0 0), (4, .ptr 4 0 0), (6, .ptr 6 0 0), (7, .d (.lit (.func (.func 51) #[] #[])))] [(3, some (.box [.d (.lit (.int .i64 a0.Kind)), .d (.lit (.int .i64 a0.Int)), .d (.lit (.string a0.Text))])), (4, some (.box [.d (.lit (.int .i64 a1.Kind)), .d (.lit (.int .i64 a1.Int)), .d (.lit (.string a1.Text))])), (6, some (.box [.d (.lit (.int .i64 0)), .d (.lit (.int .i64 0)), .d (.lit (.string (ByteArray.mk #[])))]))]) Sub.tt ?_
 refine Chain.nil ?_
 refine AW.seq ?_
 refine AW.block ?_
 replace h := bsome h; obtain ⟨v4, hj, h⟩ := h
 refine AW.cutR (mk 39 [] [(2, .d (.lit (.int .i64 a2))), (3, .ptr 3 0 0), (4, .ptr 4 0 0), (6, .ptr 6 0 0), (7, .d (.lit (.func (.func 51) #[] #[]))), (8, .d (.lit (.bool v4)))] [(3, some (.box [.d (.lit (.int .i64 a0.Kind)), .d (.lit (.int .i64 a0.Int)), .d (.lit (.string a0.Text))])), (4, some (.box [.d (.lit (.int .i64 a1.Kind)), .d (.lit (.int .i64 a1.Int)), .d (.lit (.string a1.Text))])), (6, some (.box [.d (.lit (.int .i64 0)), .d (.lit (.int .i64 0)), .d (.lit (.string (ByteArray.mk #[])))]))]) ?_ ?_
 ·clear h; have h := hj; clear hj
  refine Chain.runK [] 3 fun K hK => ?_; simp; refine hK _ _ ?_; clear hK K
  refine Chain.sub (S' := mk 39 [] [(2, .d (.lit (.int .i64 a2))), (3, .ptr 3 0 0), (4, .ptr 4 0 0), (6, .ptr 6 0 0), (7, .d (.lit (.func (.func 51) #[] #[]))), (9, .d (.lit (.func (.func 51) #[] #[]))), (10, .agg [.d (.lit (.int .i64 a0.Kind)), .d (.lit (.int .i64 a0.Int)), .d (.lit (.string a0.Text))]), (11, .d (.lit (.int .i64 a2)))] [(3, some (.box [.d (.lit (.int .i64 a0.Kind)), .d (.lit (.int .i64 a0.Int)), .d (.lit (.string a0.Text))])), (4, some (.box [.d (.lit (.int .i64 a1.Kind)), .d (.lit (.int .i64 a1.Int)), .d (.lit (.string a1.Text))])), (6, some (.box [.d (.lit (.int .i64 0)), .d (.lit (.int .i64 0)), .d (.lit (.string (ByteArray.mk #[])))]))]) Sub.tt ?_
  replace h := bsome h; obtain ⟨r5, hr5, h⟩ := h
  refine Chain.callL (d := 12) (p51 N a0 a2 r5 hr5) (by simp) rfl rfl (by simp <;> rfl) (by simp <;> rfl) ent51 (by simp <;> rfl) ?_
  refine Chain.sub (S' := mk 39 [] [(2, .d (.lit (.int .i64 a2))), (3, .ptr 3 0 0), (4, .ptr 4 0 0), (6, .ptr 6 0 0), (7, .d (.lit (.func (.func 51) #[] #[]))), (9, .d (.lit (.func (.func 51) #[] #[]))), (10, .agg [.d (.lit (.int .i64 a0.Kind)), .d (.lit (.int .i64 a0.Int)), .d (.lit (.string a0.Text))]), (11, .d (.lit (.int .i64 a2))), (12, .d (.lit (.bool r5)))] [(3, some (.box [.d (.lit (.int .i64 a0.Kind)), .d (.lit (.int .i64 a0.Int)), .d (.lit (.string a0.Text))])), (4, some (.box [.d (.lit (.int .i64 a1.Kind)), .d (.lit (.int .i64 a1.Int)), .d (.lit (.string a1.Text))])), (6, some (.box [.d (.lit (.int .i64 0)), .d (.lit (.int .i64 0)), .d (.lit (.string (ByteArray.mk #[])))]))]) (by simp; exact Sub.table (by simp) (by simp)) ?_
  refine Chain.runK [] 1 fun K hK => ?_; simp; refine hK _ _ ?_; clear hK K
  refine Chain.sub (S' := mk 39 [] [(2, .d (.lit (.int .i64 a2))), (3, .ptr 3 0 0), (4, .ptr 4 0 0), (6, .ptr 6 0 0), (7, .d (.lit (.func (.func 51) #[] #[]))), (13, .d (.lit (.bool r5)))] [(3, some (.box [.d (.lit (.int .i64 a0.Kind)), .d (.lit (.int .i64 a0.Int)), .d (.lit (.string a0.Text))])), (4, some (.box [.d (.lit (.int .i64 a1.Kind)), .d (.lit (.int .i64 a1.Int)), .d (.lit (.string a1.Text))])), (6, some (.box [.d (.lit (.int .i64 0)), .d (.lit (.int .i64 0)), .d (.lit (.string (ByteArray.mk #[])))]))]) Sub.tt ?_
  replace h := isome h; rcases h with ⟨c6, h⟩ | ⟨c6, h⟩
  ·have c6_ : r5 = true := c6
   refine Chain.sub (Sub.bool 13 (b := r5) rfl c6_) ?_
   refine Chain.sub (S' := mk 39 [] [(2, .d (.lit (.int .i64 a2))), (3, .ptr 3 0 0), (4, .ptr 4 0 0), (6, .ptr 6 0 0), (7, .d (.lit (.func (.func 51) #[] #[]))), (13, .d (.lit (.bool true)))] [(3, some (.box [.d (.lit (.int .i64 a0.Kind)), .d (.lit (.int .i64 a0.Int)), .d (.lit (.string a0.Text))])), (4, some (.box [.d (.lit (.int .i64 a1.Kind)), .d (.lit (.int .i64 a1.Int)), .d (.lit (.string a1.Text))])), (6, some (.box [.d (.lit (.int .i64 0)), .d (.lit (.int .i64 0)), .d (.lit (.string (ByteArray.mk #[])))]))]) (by simp; exact Sub.table (by simp) (by simp)) ?_
   refine Chain.runK [] 6 fun K hK => ?_; simp; refine hK _ _ ?_; clear hK K
   refine Chain.sub (S' := mk 39 [] [(2, .d (.lit (.int .i64 a2))), (3, .ptr 3 0 0), (4, .ptr 4 0 0), (6, .ptr 6 0 0), (7, .d (.lit (.func (.func 51) #[] #[]))), (8, .d (.lit (.bool true)))] [(3, some (.box [.d (.lit (.int .i64 a0.Kind)), .d (.lit (.int .i64 a0.Int)), .d (.lit (.string a0.Text))])), (4, some (.box [.d (.lit (.int .i64 a1.Kind)), .d (.lit (.int .i64 a1.Int)), .d (.lit (.string a1.Text))])), (6, some (.box [.d (.lit (.int .i64 0)), .d (.lit (.int .i64 0)), .d (.lit (.string (ByteArray.mk #[])))]))]) Sub.tt ?_
   cases h
   exact Chain.nil Sub.tt
  ·have c6_ : r5 = false := Bool.eq_false_iff.2 c6
   refine Chain.sub (Sub.bool 13 (b := r5) rfl c6_) ?_
   refine Chain.sub (S' := mk 39 [] [(2, .d (.lit (.int .i64 a2))), (3, .ptr 3 0 0), (4, .ptr 4 0 0), (6, .ptr 6 0 0), (7, .d (.lit (.func (.func 51) #[] #[]))), (13, .d (.lit (.bool false)))] [(3, some (.box [.d (.lit (.int .i64 a0.Kind)), .d (.lit (.int .i64 a0.Int)), .d (.lit (.string a0.Text))])), (4, some (.box [.d (.lit (.int .i64 a1.Kind)), .d (.lit (.int .i64 a1.Int)), .d (.lit (.string a1.Text))])), (6, some (.box [.d (.lit (.int .i64 0)), .d (.lit (.int .i64 0)), .d (.lit (.string (ByteArray.mk #[])))]))]) (by simp; exact Sub.table (by simp) (by simp)) ?_
   refine Chain.runK [] 3 fun K hK => ?_; simp; refine hK _ _ ?_; clear hK K
   refine Chain.sub (S' := mk 39 [] [(2, .d (.lit (.int .i64 a2))), (3, .ptr 3 0 0), (4, .ptr 4 0 0), (6, .ptr 6 0 0), (7, .d (.lit (.func (.func 51) #[] #[]))), (13, .d (.lit (.bool false))), (14, .d (.lit (.func (.func 51) #[] #[]))), (15, .agg [.d (.lit (.int .i64 a1.Kind)), .d (.lit (.int .i64 a1.Int)), .d (.lit (.string a1.Text))]), (16, .d (.lit (.int .i64 a2)))] [(3, some (.box [.d (.lit (.int .i64 a0.Kind)), .d (.lit (.int .i64 a0.Int)), .d (.lit (.string a0.Text))])), (4, some (.box [.d (.lit (.int .i64 a1.Kind)), .d (.lit (.int .i64 a1.Int)), .d (.lit (.string a1.Text))])), (6, some (.box [.d (.lit (.int .i64 0)), .d (.lit (.int .i64 0)), .d (.lit (.string (ByteArray.mk #[])))]))]) Sub.tt ?_
   replace h := bsome h; obtain ⟨r7, hr7, h⟩ := h
   refine Chain.callL (d := 17) (p51 N a1 a2 r7 hr7) (by simp) rfl rfl (by simp <;> rfl) (by simp <;> rfl) ent51 (by simp <;> rfl) ?_
   refine Chain.sub (S' := mk 39 [] [(2, .d (.lit (.int .i64 a2))), (3, .ptr 3 0 0), (4, .ptr 4 0 0), (6, .ptr 6 0 0), (7, .d (.lit (.func (.func 51) #[] #[]))), (13, .d (.lit (.bool false))), (14, .d (.lit (.func (.func 51) #[] #[]))), (15, .agg [.d (.lit (.int .i64 a1.Kind)), .d (.lit (.int .i64 a1.Int)), .d (.lit (.string a1.Text))]), (16, .d (.lit (.int .i64 a2))), (17, .d (.lit (.bool r7)))] [(3, some (.box [.d (.lit (.int .i64 a0.Kind)), .d (.lit (.int .i64 a0.Int)), .d (.lit (.string a0.Text))])), (4, some (.box [.d (.lit (.int .i64 a1.Kind)), .d (.lit (.int .i64 a1.Int)), .d (.lit (.string a1.Text))])), (6, some (.box [.d (.lit (.int .i64 0)), .d (.lit (.int .i64 0)), .d (.lit (.string (ByteArray.mk #[])))]))]) (by simp; exact Sub.table (by simp) (by simp)) ?_
   refine Chain.runK [] 2 fun K hK => ?_; simp; refine hK _ _ ?_; clear hK K
   refine Chain.sub (S' := mk 39 [] [(2, .d (.lit (.int .i64 a2))), (3, .ptr 3 0 0), (4, .ptr 4 0 0), (6, .ptr 6 0 0), (7, .d (.lit (.func (.func 51) #[] #[]))), (8, .d (.lit (.bool r7)))] [(3, some (.box [.d (.lit (.int .i64 a0.Kind)), .d (.lit (.int .i64 a0.Int)), .d (.lit (.string a0.Text))])), (4, some (.box [.d (.lit (.int .i64 a1.Kind)), .d (.lit (.int .i64 a1.Int)), .d (.lit (.string a1.Text))])), (6, some (.box [.d (.lit (.int .i64 0)), .d (.lit (.int .i64 0)), .d (.lit (.string (ByteArray.mk #[])))]))]) Sub.tt ?_
   cases h
   exact Chain.nil Sub.tt
 ·clear hj
  replace h := isome h; rcases h with ⟨c8, h⟩ | ⟨c8, h⟩
  ·have c8_ : v4 = true := c8
   refine AW.condT (b := v4) rfl c8_ ?_
   refine AW.sub (Sub.bool 8 (b := v4) rfl c8_) ?_
   refine AW.sub (S' := mk 39 [] [(2, .d (.lit (.int .i64 a2))), (3, .ptr 3 0 0), (4, .ptr 4 0 0), (6, .ptr 6 0 0), (7, .d (.lit (.func (.func 51) #[] #[]))), (8, .d (.lit (.bool true)))] [(3, some (.box [.d (.lit (.int .i64 a0.Kind)), .d (.lit (.int .i64 a0.Int)), .d (.lit (.string a0.Text))])), (4, some (.box [.d (.lit (.int .i64 a1.Kind)), .d (.lit (.int .i64 a1.Int)), .d (.lit (.string a1.Text))])), (6, some (.box [.d (.lit (.int .i64 0)), .d (.lit (.int .i64 0)), .d (.lit (.string (ByteArray.mk #[])))]))]) (by simp; exact Sub.table (by simp) (by simp)) ?_
   refine AW.seqR ?_
   refine Chain.runK [] 2 fun K hK => ?_; simp; refine hK _ _ ?_; clear hK K
   refine Chain.sub (S' := mk 39 [] [(6, .ptr 6 0 0), (20, .d (.lit (.bool (a2 == 1))))] [(6, some (.box [.d (.lit (.int .i64 0)), .d (.lit (.int .i64 0)), .d (.lit (.string (ByteArray.mk #[])))]))]) Sub.tt ?_
   replace h := bsome h; obtain ⟨r9, hr9, h⟩ := h
   refine Chain.callC (d := 21) (p15 N (a2 == 1) r9 hr9) (by simp) rfl rfl (by simp <;> rfl) (by simp <;> rfl) ent15 (by simp) (.inl ⟨by simp, by simp⟩) ?_
   refine Chain.sub (S' := mk 39 [] [(6, .ptr 6 0 0), (20, .d (.lit (.bool (a2 == 1)))), (21, .agg [.d (.lit (.int .i64 r9.Kind)), .d (.lit (.int .i64 r9.Int)), .d (.lit (.string r9.Text))])] [(6, some (.box [.d (.lit (.int .i64 0)), .d (.lit (.int .i64 0)), .d (.lit (.string (ByteArray.mk #[])))]))]) (by simp; exact Sub.table (by simp) (by simp)) ?_
   refine Chain.runK [] 1 fun K hK => ?_; simp; refine hK _ _ ?_; clear hK K
   refine Chain.sub (S' := mk 39 [] [(6, .ptr 6 0 0)] [(6, some (.box [.d (.lit (.int .i64 r9.Kind)), .d (.lit (.int .i64 r9.Int)), .d (.lit (.string r9.Text))]))]) Sub.tt ?_
   refine Chain.nil ?_
   refine AW.ret ?_
   cases h
   refine blockQ.ret ?_
   refine thenQ_pass (by simp) ?_
   exact FinC.ret (by simp) (by simp)
  ·have c8_ : v4 = false := Bool.eq_false_iff.2 c8
   refine AW.condF (b := v4) rfl c8_ ?_
   refine AW.sub (Sub.bool 8 (b := v4) rfl c8_) ?_
   refine AW.sub (S' := mk 39 [] [(2, .d (.lit (.int .i64 a2))), (3, .ptr 3 0 0), (4, .ptr 4 0 0), (6, .ptr 6 0 0), (7, .d (.lit (.func (.func 51) #[] #[]))), (8, .d (.lit (.bool false)))] [(3, some (.box [.d (.lit (.int .i64 a0.Kind)), .d (.lit (.int .i64 a0.Int)), .d (.lit (.string a0.Text))])), (4, some (.box [.d (.lit (.int .i64 a1.Kind)), .d (.lit (.int .i64 a1.Int)), .d (.lit (.string a1.Text))])), (6, some (.box [.d (.lit (.int .i64 0)), .d (.lit (.int .i64 0)), .d (.lit (.string (ByteArray.mk #[])))]))]) (by simp; exact Sub.table (by simp) (by simp)) ?_
   replace h := bsome h; obtain ⟨v15, hj, h⟩ := h
   refine AW.cutR (mk 39 [] [(2, .d (.lit (.int .i64 a2))), (6, .ptr 6 0 0), (22, .d (.lit (.bool v15)))] [(6, some (.box [.d (.lit (.int .i64 0)), .d (.lit (.int .i64 0)), .d (.lit (.string (ByteArray.mk #[])))]))]) ?_ ?_
   ·clear h; have h := hj; clear hj
    replace h := bsome h; obtain ⟨v16, hv16, h⟩ := h
    have hv16 := chkI_some hv16
    refine Chain.runK [] 4 fun K hK => ?_; simp [hv16]; refine hK _ _ ?_; clear hK K
    refine Chain.sub (S' := mk 39 [] [(2, .d (.lit (.int .i64 a2))), (4, .ptr 4 0 0), (6, .ptr 6 0 0), (7, .d (.lit (.func (.func 51) #[] #[]))), (23, .d (.lit (.func (.func 51) #[] #[]))), (24, .agg [.d (.lit (.int .i64 a0.Kind)), .d (.lit (.int .i64 a0.Int)), .d (.lit (.string a0.Text))]), (26, .d (.lit (.int .i64 v16)))] [(4, some (.box [.d (.lit (.int .i64 a1.Kind)), .d (.lit (.int .i64 a1.Int)), .d (.lit (.string a1.Text))])), (6, some (.box [.d (.lit (.int .i64 0)), .d (.lit (.int .i64 0)), .d (.lit (.string (ByteArray.mk #[])))]))]) Sub.tt ?_
    replace h := bsome h; obtain ⟨r17, hr17, h⟩ := h
    refine Chain.callL (d := 27) (p51 N a0 v16 r17 hr17) (by simp) rfl rfl (by simp <;> rfl) (by simp <;> rfl) ent51 (by simp <;> rfl) ?_
    refine Chain.sub (S' := mk 39 [] [(2, .d (.lit (.int .i64 a2))), (4, .ptr 4 0 0), (6, .ptr 6 0 0), (7, .d (.lit (.func (.func 51) #[] #[]))), (23, .d (.lit (.func (.func 51) #[] #[]))), (24, .agg [.d (.lit (.int .i64 a0.Kind)), .d (.lit (.int .i64 a0.Int)), .d (.lit (.string a0.Text))]), (26, .d (.lit (.int .i64 v16))), (27, .d (.lit (.bool r17)))] [(4, some (.box [.d (.lit (.int .i64 a1.Kind)), .d (.lit (.int .i64 a1.Int)), .d (.lit (.string a1.Text))])), (6, some (.box [.d (.lit (.int .i64 0)), .d (.lit (.int .i64 0)), .d (.lit (.string (ByteArray.mk #[])))]))]) (by simp; exact Sub.table (by simp) (by simp)) ?_
    refine Chain.runK [] 1 fun K hK => ?_; simp; refine hK _ _ ?_; clear hK K
    refine Chain.sub (S' := mk 39 [] [(2, .d (.lit (.int .i64 a2))), (4, .ptr 4 0 0), (6, .ptr 6 0 0), (7, .d (.lit (.func (.func 51) #[] #[]))), (28, .d (.lit (.bool r17)))] [(4, some (.box [.d (.lit (.int .i64 a1.Kind)), .d (.lit (.int .i64 a1.Int)), .d (.lit (.string a1.Text))])), (6, some (.box [.d (.lit (.int .i64 0)), .d (.lit (.int .i64 0)), .d (.lit (.string (ByteArray.mk #[])))]))]) Sub.tt ?_
    replace h := isome h; rcases h with ⟨c18, h⟩ | ⟨c18, h⟩
    ·have c18_ : r17 = true := c18
     refine Chain.sub (Sub.bool 28 (b := r17) rfl c18_) ?_
     refine Chain.sub (S' := mk 39 [] [(2, .d (.lit (.int .i64 a2))), (4, .ptr 4 0 0), (6, .ptr 6 0 0), (7, .d (.lit (.func (.func 51) #[] #[]))), (28, .d (.lit (.bool true)))] [(4, some (.box [.d (.lit (.int .i64 a1.Kind)), .d (.lit (.int .i64 a1.Int)), .d (.lit (.string a1.Text))])), (6, some (.box [.d (.lit (.int .i64 0)), .d (.lit (.int .i64 0)), .d (.lit (.string (ByteArray.mk #[])))]))]) (by simp; exact Sub.table (by simp) (by simp)) ?_
     replace h := bsome h; obtain ⟨v19, hv19, h⟩ := h
     have hv19 := chkI_some hv19
     refine Chain.runK [] 4 fun K hK => ?_; simp [hv19]; refine hK _ _ ?_; clear hK K
     refine Chain.sub (S' := mk 39 [] [(2, .d (.lit (.int .i64 a2))), (6, .ptr 6 0 0), (28, .d (.lit (.bool true))), (29, .d (.lit (.func (.func 51) #[] #[]))), (30, .agg [.d (.lit (.int .i64 a1.Kind)), .d (.lit (.int .i64 a1.Int)), .d (.lit (.string a1.Text))]), (32, .d (.lit (.int .i64 v19)))] [(6, some (.box [.d (.lit (.int .i64 0)), .d (.lit (.int .i64 0)), .d (.lit (.string (ByteArray.mk #[])))]))]) Sub.tt ?_
     replace h := bsome h; obtain ⟨r20, hr20, h⟩ := h
     refine Chain.callL (d := 33) (p51 N a1 v19 r20 hr20) (by simp) rfl rfl (by simp <;> rfl) (by simp <;> rfl) ent51 (by simp <;> rfl) ?_
     refine Chain.sub (S' := mk 39 [] [(2, .d (.lit (.int .i64 a2))), (6, .ptr 6 0 0), (28, .d (.lit (.bool true))), (29, .d (.lit (.func (.func 51) #[] #[]))), (30, .agg [.d (.lit (.int .i64 a1.Kind)), .d (.lit (.int .i64 a1.Int)), .d (.lit (.string a1.Text))]), (32, .d (.lit (.int .i64 v19))), (33, .d (.lit (.bool r20)))] [(6, some (.box [.d (.lit (.int .i64 0)), .d (.lit (.int .i64 0)), .d (.lit (.string (ByteArray.mk #[])))]))]) (by simp; exact Sub.table (by simp) (by simp)) ?_
     refine Chain.runK [] 2 fun K hK => ?_; simp; refine hK _ _ ?_; clear hK K
     refine Chain.sub (S' := mk 39 [] [(2, .d (.lit (.int .i64 a2))), (6, .ptr 6 0 0), (22, .d (.lit (.bool r20)))] [(6, some (.box [.d (.lit (.int .i64 0)), .d (.lit (.int .i64 0)), .d (.lit (.string (ByteArray.mk #[])))]))]) Sub.tt ?_
     cases h
     exact Chain.nil Sub.tt
    ·have c18_ : r17 = false := Bool.eq_false_iff.2 c18
     refine Chain.sub (Sub.bool 28 (b := r17) rfl c18_) ?_
     refine Chain.sub (S' := mk 39 [] [(2, .d (.lit (.int .i64 a2))), (4, .ptr 4 0 0), (6, .ptr 6 0 0), (7, .d (.lit (.func (.func 51) #[] #[]))), (28, .d (.lit (.bool false)))] [(4, some (.box [.d (.lit (.int .i64 a1.Kind)), .d (.lit (.int .i64 a1.Int)), .d (.lit (.string a1.Text))])), (6, some (.box [.d (.lit (.int .i64 0)), .d (.lit (.int .i64 0)), .d (.lit (.string (ByteArray.mk #[])))]))]) (by simp; exact Sub.table (by simp) (by simp)) ?_
     refine Chain.runK [] 7 fun K hK => ?_; simp; refine hK _ _ ?_; clear hK K
     refine Chain.sub (S' := mk 39 [] [(2, .d (.lit (.int .i64 a2))), (6, .ptr 6 0 0), (22, .d (.lit (.bool false)))] [(6, some (.box [.d (.lit (.int .i64 0)), .d (.lit (.int .i64 0)), .d (.lit (.string (ByteArray.mk #[])))]))]) Sub.tt ?_
     cases h
     exact Chain.nil Sub.tt
   ·clear hj
    replace h := isome h; rcases h with ⟨c21, h⟩ | ⟨c21, h⟩
    ·have c21_ : v15 = true := c21
     refine AW.condT (b := v15) rfl c21_ ?_
     refine AW.sub (Sub.bool 22 (b := v15) rfl c21_) ?_
     refine AW.sub (S' := mk 39 [] [(2, .d (.lit (.int .i64 a2))), (6, .ptr 6 0 0), (22, .d (.lit (.bool true)))] [(6, some (.box [.d (.lit (.int .i64 0)), .d (.lit (.int .i64 0)), .d (.lit (.string (ByteArray.mk #[])))]))]) (by simp; exact Sub.table (by simp) (by simp)) ?_
     refine AW.seqR ?_
     refine Chain.runK [] 2 fun K hK => ?_; simp; refine hK _ _ ?_; clear hK K
     refine Chain.sub (S' := mk 39 [] [(6, .ptr 6 0 0), (36, .d (.lit (.bool (a2 == 0))))] [(6, some (.box [.d (.lit (.int .i64 0)), .d (.lit (.int .i64 0)), .d (.lit (.string (ByteArray.mk #[])))]))]) Sub.tt ?_
     replace h := bsome h; obtain ⟨r22, hr22, h⟩ := h
     refine Chain.callC (d := 37) (p15 N (a2 == 0) r22 hr22) (by simp) rfl rfl (by simp <;> rfl) (by simp <;> rfl) ent15 (by simp) (.inl ⟨by simp, by simp⟩) ?_
     refine Chain.sub (S' := mk 39 [] [(6, .ptr 6 0 0), (36, .d (.lit (.bool (a2 == 0)))), (37, .agg [.d (.lit (.int .i64 r22.Kind)), .d (.lit (.int .i64 r22.Int)), .d (.lit (.string r22.Text))])] [(6, some (.box [.d (.lit (.int .i64 0)), .d (.lit (.int .i64 0)), .d (.lit (.string (ByteArray.mk #[])))]))]) (by simp; exact Sub.table (by simp) (by simp)) ?_
     refine Chain.runK [] 1 fun K hK => ?_; simp; refine hK _ _ ?_; clear hK K
     refine Chain.sub (S' := mk 39 [] [(6, .ptr 6 0 0)] [(6, some (.box [.d (.lit (.int .i64 r22.Kind)), .d (.lit (.int .i64 r22.Int)), .d (.lit (.string r22.Text))]))]) Sub.tt ?_
     refine Chain.nil ?_
     refine AW.ret ?_
     cases h
     refine blockQ.ret ?_
     refine thenQ_pass (by simp) ?_
     exact FinC.ret (by simp) (by simp)
    ·have c21_ : v15 = false := Bool.eq_false_iff.2 c21
     refine AW.condF (b := v15) rfl c21_ ?_
     refine AW.sub (Sub.bool 22 (b := v15) rfl c21_) ?_
     refine AW.sub (S' := mk 39 [] [(2, .d (.lit (.int .i64 a2))), (6, .ptr 6 0 0), (22, .d (.lit (.bool false)))] [(6, some (.box [.d (.lit (.int .i64 0)), .d (.lit (.int .i64 0)), .d (.lit (.string (ByteArray.mk #[])))]))]) (by simp; exact Sub.table (by simp) (by simp)) ?_
     refine AW.skip ?_
     refine blockQ.normal ?_
     refine thenQ_normal ?_
     refine AW.seqR ?_
     refine Chain.runK [] 2 fun K hK => ?_; simp; refine hK _ _ ?_; clear hK K
     refine Chain.sub (S' := mk 39 [] [(6, .ptr 6 0 0)] [(6, some (.box [.d (.lit (.int .i64 0)), .d (.lit (.int .i64 0)), .d (.lit (.string (ByteArray.mk #[])))]))]) Sub.tt ?_
     refine Chain.nil ?_
     refine AW.ret ?_
     cases h
     exact FinC.ret (by simp) (by simp)

/-- slices.IndexFunc[[]stemma/api.Value,stemma/api.Value] -/
def d52 (N : Nat) (a0 : (List S24)) (p1 : S24 → Option Bool) : Option Int :=
 bindO (β := Unit) (ρ := Int) (
  iterN (σ := Int) (ρ := (Out Unit Int)) (fun (v6 : Int) =>
   if v6 < (a0.length : Int) then (
    (idx a0 v6).bind fun x21 =>
    (p1 x21).bind fun r23 =>
    if r23 = true then (
     some (.inr (.ret v6))
    ) else
    (chkI (v6 + 1)).bind fun v25 =>
    some (.inl v25)
   ) else
   some (.inr (.go ()))
  ) N 0
 ) fun (_ : Unit) =>
 some (-1)
set_option maxRecDepth 100000 in
set_option maxHeartbeats 4000000 in
theorem p52 (N : Nat) (a0 : (List S24)) (g1 : Nat) (cs1 : List D) (p1 : S24 → Option Bool) (ent_1 : Rp.Enters Try.prog g1) (hp1 : ∀ a0 r, p1 a0 = some r → FunC Try.prog g1 ([.agg [.d (.lit (.int .i64 a0.Kind)), .d (.lit (.int .i64 a0.Int)), .d (.lit (.string a0.Text))]] ++ cs1.map .d) (.d (.lit (.bool r)))) (r : Int) (h : d52 N a0 p1 = some r) : FunC Try.prog 52 [.d (.sl (a0.map cS24)), .fn (.func g1) (cs1.map .d)] (.d (.lit (.int .i64 r))) := by
 unfold d52 at h
 refine FunC.enter 19 [(0, .d (.sl (a0.map cS24))), (1, .fn (.func g1) (cs1.map .d))] (by simp) Try.func52 rfl (of_decide_eq_true rfl) rfl rfl ?_
 refine AW.seqR ?_
 refine Chain.runK [] 1 fun K hK => ?_; simp; refine hK _ _ ?_; clear hK K
 refine Chain.sub (S' := mk 19 [] [(0, .d (.sl (a0.map cS24))), (1, .fn (.func g1) (cs1.map .d))] []) Sub.tt ?_
 refine Chain.nil ?_
 refine AW.seq ?_
 refine AW.seqR ?_
 refine Chain.runK [] 3 fun K hK => ?_; simp; refine hK _ _ ?_; clear hK K
 refine Chain.sub (S' := mk 19 [] [(0, .d (.sl (a0.map cS24))), (1, .fn (.func g1) (cs1.map .d)), (7, .d (.lit (.int .i64 (a0.length : Int)))), (8, .d (.lit (.int .i64 0)))] []) Sub.tt ?_
 refine Chain.nil ?_
 refine AW.lastJ (fun (_ : Unit) => mk 19 [] [] []) h ?_ ?_ <;> clear h
 ·intro o h
  refine AW.block ?_
  refine AW.iter (fun (v6 : Int) => mk 19 [] [(0, .d (.sl (a0.map cS24))), (1, .fn (.func g1) (cs1.map .d)), (7, .d (.lit (.int .i64 (a0.length : Int)))), (8, .d (.lit (.int .i64 v6)))] []) h Sub.tt ?_
  clear h
  rintro v6 x h
  refine AW.seqR ?_
  refine Chain.runK [] 1 fun K hK => ?_; simp; refine hK _ _ ?_; clear hK K
  refine Chain.sub (S' := mk 19 [] [(0, .d (.sl (a0.map cS24))), (1, .fn (.func g1) (cs1.map .d)), (7, .d (.lit (.int .i64 (a0.length : Int)))), (8, .d (.lit (.int .i64 v6))), (9, .d (.lit (.bool (decide (v6 < (a0.length : Int))))))] []) Sub.tt ?_
  refine Chain.nil ?_
  refine AW.seq ?_
  replace h := isome h; rcases h with ⟨c20, h⟩ | ⟨c20, h⟩
  ·have c20_ : decide (v6 < (a0.length : Int)) = true := decide_eq_true c20
   refine AW.condT (b := decide (v6 < (a0.length : Int))) rfl c20_ ?_
   refine AW.sub (Sub.bool 9 (b := decide (v6 < (a0.length : Int))) rfl c20_) ?_
   refine AW.sub (S' := mk 19 [] [(0, .d (.sl (a0.map cS24))), (1, .fn (.func g1) (cs1.map .d)), (7, .d (.lit (.int .i64 (a0.length : Int)))), (8, .d (.lit (.int .i64 v6))), (9, .d (.lit (.bool true)))] []) (by simp; exact Sub.table (by simp) (by simp)) ?_
   refine AW.skip ?_
   refine thenQ_normal ?_
   refine AW.seq ?_
   refine AW.block ?_
   refine AW.seqR ?_
   refine Chain.runK [] 2 fun K hK => ?_; simp; refine hK _ _ ?_; clear hK K
   refine Chain.sub (S' := mk 19 [] [(0, .d (.sl (a0.map cS24))), (1, .fn (.func g1) (cs1.map .d)), (5, .d (.lit (.int .i64 v6))), (7, .d (.lit (.int .i64 (a0.length : Int)))), (8, .d (.lit (.int .i64 v6)))] []) Sub.tt ?_
   refine Chain.nil ?_
   refine AW.seqR ?_
   replace h := bsome h; obtain ⟨x21, hx21, h⟩ := h
   obtain ⟨k22, hx21k, hx21, hx21a, hx21b⟩ := idx_some hx21
   refine Chain.runK [] 5 fun K hK => ?_; simp [hx21, hx21k, hx21a]; refine hK _ _ ?_; clear hK K
   refine Chain.sub (S' := mk 19 [] [(0, .d (.sl (a0.map cS24))), (1, .fn (.func g1) (cs1.map .d)), (5, .d (.lit (.int .i64 v6))), (7, .d (.lit (.int .i64 (a0.length : Int)))), (8, .d (.lit (.int .i64 v6))), (11, .fn (.func g1) (cs1.map .d)), (15, .agg [.d (.lit (.int .i64 x21.Kind)), .d (.lit (.int .i64 x21.Int)), .d (.lit (.string x21.Text))])] []) Sub.tt ?_
   replace h := bsome h; obtain ⟨r23, hr23, h⟩ := h
   refine Chain.callL (d := 16) (hp1 x21 r23 hr23) (by simp) rfl rfl (by simp <;> rfl) (by simp <;> rfl) ent_1 (by simp <;> rfl) ?_
   refine Chain.sub (S' := mk 19 [] [(0, .d (.sl (a0.map cS24))), (1, .fn (.func g1) (cs1.map .d)), (5, .d (.lit (.int .i64 v6))), (7, .d (.lit (.int .i64 (a0.length : Int)))), (8, .d (.lit (.int .i64 v6))), (11, .fn (.func g1) (cs1.map .d)), (15, .agg [.d (.lit (.int .i64 x21.Kind)), .d (.lit (.int .i64 x21.Int)), .d (.lit (.string x21.Text))]), (16, .d (.lit (.bool r23)))] []) (by simp; exact Sub.table (by simp) (by simp)) ?_
   refine Chain.nil ?_
   replace h := isome h; rcases h with ⟨c24, h⟩ | ⟨c24, h⟩
   ·have c24_ : r23 = true := c24
    refine AW.condT (b := r23) rfl c24_ ?_
    refine AW.sub (Sub.bool 16 (b := r23) rfl c24_) ?_
    refine AW.sub (S' := mk 19 [] [(0, .d (.sl (a0.map cS24))), (1, .fn (.func g1) (cs1.map .d)), (5, .d (.lit (.int .i64 v6))), (7, .d (.lit (.int .i64 (a0.length : Int)))), (8, .d (.lit (.int .i64 v6))), (11, .fn (.func g1) (cs1.map .d)), (15, .agg [.d (.lit (.int .i64 x21.Kind)), .d (.lit (.int .i64 x21.Int)), .d (.lit (.string x21.Text))]), (16, .d (.lit (.bool true)))] []) (by simp; exact Sub.table (by simp) (by simp)) ?_
    refine AW.seqR ?_
    refine Chain.runK [] 2 fun K hK => ?_; simp; refine hK _ _ ?_; clear hK K
    refine Chain.sub (S' := mk 19 [] [(4, .d (.lit (.int .i64 v6)))] []) Sub.tt ?_
    refine Chain.nil ?_
    refine AW.ret ?_
    cases h
    refine blockQ.ret ?_
    refine thenQ_pass (by simp) ?_
    refine PostI.out (by simp) ?_
    rintro rfl
    refine blockQ.ret ?_
    refine PostJ.out (by simp) ?_
    rintro rfl
    refine thenQ_pass (by simp) ?_
    exact FinC.ret (by simp) (by simp)
   ·have c24_ : r23 = false := Bool.eq_false_iff.2 c24
    refine AW.condF (b := r23) rfl c24_ ?_
    refine AW.sub (Sub.bool 16 (b := r23) rfl c24_) ?_
    refine AW.sub (S' := mk 19 [] [(0, .d (.sl (a0.map cS24))), (1, .fn (.func g1) (cs1.map .d)), (5, .d (.lit (.int .i64 v6))), (7, .d (.lit (.int .i64 (a0.length : Int)))), (8, .d (.lit (.int .i64 v6))), (11, .fn (.func g1) (cs1.map .d)), (15, .agg [.d (.lit (.int .i64 x21.Kind)), .d (.lit (.int .i64 x21.Int)), .d (.lit (.string x21.Text))]), (16, .d (.lit (.bool false)))] []) (by simp; exact Sub.table (by simp) (by simp)) ?_
    refine AW.skip ?_
    refine blockQ.normal ?_
    refine thenQ_normal ?_
    refine AW.region ?_
    replace h := bsome h; obtain ⟨v25, hv25, h⟩ := h
    have hv25 := chkI_some hv25
    refine Chain.runK [] 2 fun K hK => ?_; simp [hv25]; refine hK _ _ ?_; clear hK K
    refine Chain.sub (S' := mk 19 [] [(0, .d (.sl (a0.map cS24))), (1, .fn (.func g1) (cs1.map .d)), (7, .d (.lit (.int .i64 (a0.length : Int)))), (8, .d (.lit (.int .i64 v25)))] []) Sub.tt ?_
    refine Chain.nil ?_
    cases h
    refine PostI.next ?_
    exact Sub.tt
  ·have c20_ : decide (v6 < (a0.length : Int)) = false := decide_eq_false c20
   refine AW.condF (b := decide (v6 < (a0.length : Int))) rfl c20_ ?_
   refine AW.sub (Sub.bool 9 (b := decide (v6 < (a0.length : Int))) rfl c20_) ?_
   refine AW.sub (S' := mk 19 [] [(0, .d (.sl (a0.map cS24))), (1, .fn (.func g1) (cs1.map .d)), (7, .d (.lit (.int .i64 (a0.length : Int)))), (8, .d (.lit (.int .i64 v6))), (9, .d (.lit (.bool false)))] []) (by simp; exact Sub.table (by simp) (by simp)) ?_
   refine AW.exit ?_
   cases h
   refine thenQ_pass (by simp) ?_
   refine PostI.out (by simp) ?_
   rintro rfl
   refine blockQ.hit ?_
   refine PostJ.next ?_
   exact Sub.tt
 ·rintro ⟨⟩ h
  refine thenQ_normal ?_
  refine AW.seqR ?_
  refine Chain.runK [] 1 fun K hK => ?_; simp; refine hK _ _ ?_; clear hK K
  refine Chain.sub (S' := mk 19 [] [(4, .d (.lit (.int .i64 (-1))))] []) Sub.tt ?_
  refine Chain.nil ?_
  refine AW.ret ?_
  cases h
  exact FinC.ret (by simp) (by simp)

/-- slices.ContainsFunc[[]stemma/api.Value,stemma/api.Value] -/
def d37 (N : Nat) (a0 : (List S24)) (p1 : S24 → Option Bool) : Option Bool :=
 (d52 N a0 p1).bind fun r1 =>
 some (decide (r1 ≥ 0))
set_option maxRecDepth 100000 in
set_option maxHeartbeats 4000000 in
theorem p37 (N : Nat) (a0 : (List S24)) (g1 : Nat) (cs1 : List D) (p1 : S24 → Option Bool) (ent_1 : Rp.Enters Try.prog g1) (hp1 : ∀ a0 r, p1 a0 = some r → FunC Try.prog g1 ([.agg [.d (.lit (.int .i64 a0.Kind)), .d (.lit (.int .i64 a0.Int)), .d (.lit (.string a0.Text))]] ++ cs1.map .d) (.d (.lit (.bool r)))) (r : Bool) (h : d37 N a0 p1 = some r) : FunC Try.prog 37 [.d (.sl (a0.map cS24)), .fn (.func g1) (cs1.map .d)] (.d (.lit (.bool r))) := by
 unfold d37 at h
 refine FunC.enter 9 [(0, .d (.sl (a0.map cS24))), (1, .fn (.func g1) (cs1.map .d))] (by simp) Try.func37 rfl (of_decide_eq_true rfl) rfl rfl ?_
 refine AW.seqR ?_
 refine Chain.runK [] 1 fun K hK => ?_; simp; refine hK _ _ ?_; clear hK K
 refine Chain.sub (S' := mk 9 [] [(0, .d (.sl (a0.map cS24))), (1, .fn (.func g1) (cs1.map .d))] []) Sub.tt ?_
 refine Chain.nil ?_
 refine AW.seqR ?_
 refine Chain.runK [] 2 fun K hK => ?_; simp; refine hK _ _ ?_; clear hK K
 refine Chain.sub (S' := mk 9 [] [(5, .d (.sl (a0.map cS24))), (6, .fn (.func g1) (cs1.map .d))] []) Sub.tt ?_
 replace h := bsome h; obtain ⟨r1, hr1, h⟩ := h
 refine Chain.callL (d := 7) (p52 N a0 g1 cs1 p1 ent_1 hp1 r1 hr1) (by simp) rfl rfl (by simp <;> rfl) (by simp <;> rfl) ent52 (by simp <;> rfl) ?_
 refine Chain.sub (S' := mk 9 [] [(5, .d (.sl (a0.map cS24))), (6, .fn (.func g1) (cs1.map .d)), (7, .d (.lit (.int .i64 r1)))] []) (by simp; exact Sub.table (by simp) (by simp)) ?_
 refine Chain.runK [] 2 fun K hK => ?_; simp; refine hK _ _ ?_; clear hK K
 refine Chain.sub (S' := mk 9 [] [(4, .d (.lit (.bool (decide (r1 ≥ 0)))))] []) Sub.tt ?_
 refine Chain.nil ?_
 refine AW.ret ?_
 cases h
 exact FinC.ret (by simp) (by simp)

/-- stemma/expr.reckon$1 -/
def d38 (_N : Nat) (a0 : S24) : Option Bool :=
 some (a0.Kind == 0)
set_option maxRecDepth 100000 in
set_option maxHeartbeats 4000000 in
theorem p38 (N : Nat) (a0 : S24) (r : Bool) (h : d38 N a0 = some r) : FunC Try.prog 38 [.agg [.d (.lit (.int .i64 a0.Kind)), .d (.lit (.int .i64 a0.Int)), .d (.lit (.string a0.Text))]] (.d (.lit (.bool r))) := by
 unfold d38 at h
 refine FunC.enter 6 [(0, .agg [.d (.lit (.int .i64 a0.Kind)), .d (.lit (.int .i64 a0.Int)), .d (.lit (.string a0.Text))])] (by simp) Try.func38 rfl (of_decide_eq_true rfl) rfl rfl ?_
 refine AW.seqR ?_
 refine Chain.runK [] 2 fun K hK => ?_; simp; refine hK _ _ ?_; clear hK K
 refine Chain.sub (S' := mk 6 [] [(1, .ptr 1 0 0)] [(1, some (.box [.d (.lit (.int .i64 a0.Kind)), .d (.lit (.int .i64 a0.Int)), .d (.lit (.string a0.Text))]))]) Sub.tt ?_
 refine Chain.nil ?_
 refine AW.seqR ?_
 refine Chain.runK [] 4 fun K hK => ?_; simp; refine hK _ _ ?_; clear hK K
 refine Chain.sub (S' := mk 6 [] [(2, .d (.lit (.bool (a0.Kind == 0))))] []) Sub.tt ?_
 refine Chain.nil ?_
 refine AW.ret ?_
 cases h
 exact FinC.ret (by simp) (by simp)

/-- stemma/expr.plain$1$1 -/
def d54 (_N : Nat) (a0 : S24) (a1 : Int) : Option Bool :=
 some (a0.Kind != a1)
set_option maxRecDepth 100000 in
set_option maxHeartbeats 4000000 in
theorem p54 (N : Nat) (a0 : S24) (a1 : Int) (r : Bool) (h : d54 N a0 a1 = some r) : FunC Try.prog 54 [.agg [.d (.lit (.int .i64 a0.Kind)), .d (.lit (.int .i64 a0.Int)), .d (.lit (.string a0.Text))], .d (.pim [.lit (.int .i64 a1)])] (.d (.lit (.bool r))) := by
 unfold d54 at h
 refine FunC.enter 8 [(0, .agg [.d (.lit (.int .i64 a0.Kind)), .d (.lit (.int .i64 a0.Int)), .d (.lit (.string a0.Text))]), (1, .d (.pim [.lit (.int .i64 a1)]))] (by simp) Try.func54 rfl (of_decide_eq_true rfl) rfl rfl ?_
 refine AW.seqR ?_
 refine Chain.runK [] 2 fun K hK => ?_; simp; refine hK _ _ ?_; clear hK K
 refine Chain.sub (S' := mk 8 [] [(1, .d (.pim [.lit (.int .i64 a1)])), (2, .ptr 2 0 0)] [(2, some (.box [.d (.lit (.int .i64 a0.Kind)), .d (.lit (.int .i64 a0.Int)), .d (.lit (.string a0.Text))]))]) Sub.tt ?_
 refine Chain.nil ?_
 refine AW.seqR ?_
 refine Chain.runK [] 5 fun K hK => ?_; simp; refine hK _ _ ?_; clear hK K
 refine Chain.sub (S' := mk 8 [] [(3, .d (.lit (.bool (a0.Kind != a1))))] []) Sub.tt ?_
 refine Chain.nil ?_
 refine AW.ret ?_
 cases h
 exact FinC.ret (by simp) (by simp)

/-- stemma/expr.plain$1 -/
def d53 (N : Nat) (a0 : Int) (a1 : (List S24)) : Option Bool :=
 (d37 N a1 (fun b0 => d54 N b0 a0)).bind fun r1 =>
 some (!r1)
set_option maxRecDepth 100000 in
set_option maxHeartbeats 4000000 in
theorem p53 (N : Nat) (a0 : Int) (a1 : (List S24)) (r : Bool) (h : d53 N a0 a1 = some r) : FunC Try.prog 53 [.d (.lit (.int .i64 a0)), .d (.pim [.sl (a1.map cS24)])] (.d (.lit (.bool r))) := by
 unfold d53 at h
 refine FunC.enter 8 [(0, .d (.lit (.int .i64 a0))), (1, .d (.pim [.sl (a1.map cS24)]))] (by simp) Try.func53 rfl (of_decide_eq_true rfl) rfl rfl ?_
 refine AW.seqR ?_
 refine Chain.runK [] 2 fun K hK => ?_; simp; refine hK _ _ ?_; clear hK K
 refine Chain.sub (S' := mk 8 [] [(1, .d (.pim [.sl (a1.map cS24)])), (2, .ptr 2 0 0)] [(2, some (.box [.d (.lit (.int .i64 a0))]))]) Sub.tt ?_
 refine Chain.nil ?_
 refine AW.seqR ?_
 refine Chain.runK [] 2 fun K hK => ?_; simp; refine hK _ _ ?_; clear hK K
 refine Chain.sub (S' := mk 8 [] [(4, .d (.sl (a1.map cS24))), (5, .fn (.func 54) [.ptr 2 0 0])] [(2, some (.box [.d (.lit (.int .i64 a0))]))]) Sub.tt ?_
 replace h := bsome h; obtain ⟨r1, hr1, h⟩ := h
 refine Chain.callL (d := 6) (p37 N a1 54 [.pim [.lit (.int .i64 a0)]] (fun b0 => d54 N b0 a0) ent54 (fun b0 r h => p54 N b0 a0 r h) r1 hr1) (by simp) rfl rfl (by simp <;> rfl) (by simp <;> rfl) ent37 (by simp <;> rfl) ?_
 refine Chain.sub (S' := mk 8 [] [(4, .d (.sl (a1.map cS24))), (5, .fn (.func 54) [.ptr 2 0 0]), (6, .d (.lit (.bool r1)))] [(2, some (.box [.d (.lit (.int .i64 a0))]))]) (by simp; exact Sub.table (by simp) (by simp)) ?_
 refine Chain.runK [] 2 fun K hK => ?_; simp; refine hK _ _ ?_; clear hK K
 refine Chain.sub (S' := mk 8 [] [(3, .d (.lit (.bool (!r1))))] []) Sub.tt ?_
 refine Chain.nil ?_
 refine AW.ret ?_
 cases h
 exact FinC.ret (by simp) (by simp)

end Go.Proofs.Ytacafkegbgmnoaa
