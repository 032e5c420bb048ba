/- Functions of the program as functional programs; the code computes them. -/
import Derived.Test.YtifcmomjjkbboaaSc1
namespace Go.Proofs.Ytifcmomjjkbboaa
open Go.Ab Go.Rp
attribute [-simp] List.all_eq_true Array.all_toList Array.all_eq_true

/-- stemma/interleaving.dependent -/
def d36 (N : Nat) (a0 : S27) (a1 : S27) : Option Bool :=
 Option.bind (α := Bool) (
  if (a0.Tx == a1.Tx) then (
   some true
  ) else
  (d40 N a0 a1).bind fun r5 =>
  some r5
 ) fun (v3 : Bool) =>
 some v3
set_option maxRecDepth 100000 in
set_option maxHeartbeats 4000000 in
theorem p36 (N : Nat) (a0 : S27) (a1 : S27) (r : Bool) (h : d36 N a0 a1 = some r) : FunC Try.prog 36 [.agg [.i a0.Tx, .i a0.Kind, .d (.lit (.string a0.Key))], .agg [.i a1.Tx, .i a1.Kind, .d (.lit (.string a1.Key))]] (.b r) := by
 unfold d36 at h
 refine FunC.enter 15 [(0, .agg [.i a0.Tx, .i a0.Kind, .d (.lit (.string a0.Key))]), (1, .agg [.i a1.Tx, .i a1.Kind, .d (.lit (.string a1.Key))])] (by simp) Try.func36 rfl (of_decide_eq_true rfl) rfl rfl ?_
 refine AW.seqR ?_
 refine Chain.runK [] 3 fun K hK => ?_; simp; refine hK _ _ ?_; clear hK K
 refine Chain.sub (S' := mk 15 [] [(2, .ptr 2 0 0), (3, .ptr 3 0 0)] [(2, some (.box [.i a0.Tx, .i a0.Kind, .d (.lit (.string a0.Key))])), (3, some (.box [.i a1.Tx, .i a1.Kind, .d (.lit (.string a1.Key))]))]) Sub.tt ?_
 refine Chain.nil ?_
 replace h := bsome h; obtain ⟨v3, hj, h⟩ := h
 refine AW.cutR (mk 15 [] [(4, .b v3)] []) ?_ ?_
 ·clear h; have h := hj; clear hj
  refine Chain.runK [] 6 fun K hK => ?_; simp; refine hK _ _ ?_; clear hK K
  refine Chain.sub (S' := mk 15 [] [(2, .ptr 2 0 0), (3, .ptr 3 0 0), (10, .b (a0.Tx == a1.Tx))] [(2, some (.box [.i a0.Tx, .i a0.Kind, .d (.lit (.string a0.Key))])), (3, some (.box [.i a1.Tx, .i a1.Kind, .d (.lit (.string a1.Key))]))]) Sub.tt ?_
  replace h := isome h; rcases h with ⟨c4, h⟩ | ⟨c4, h⟩
  ·have c4_ : (a0.Tx == a1.Tx) = true := c4
   refine Chain.sub (Sub.bool 10 (b := (a0.Tx == a1.Tx)) rfl c4_) ?_
   refine Chain.sub (S' := mk 15 [] [(2, .ptr 2 0 0), (3, .ptr 3 0 0), (10, .b true)] [(2, some (.box [.i a0.Tx, .i a0.Kind, .d (.lit (.string a0.Key))])), (3, some (.box [.i a1.Tx, .i a1.Kind, .d (.lit (.string a1.Key))]))]) (by simp; exact Sub.table (by simp) (by simp)) ?_
   refine Chain.runK [] 5 fun K hK => ?_; simp; refine hK _ _ ?_; clear hK K
   refine Chain.sub (S' := mk 15 [] [(4, .b true)] []) Sub.tt ?_
   cases h
   exact Chain.nil Sub.tt
  ·have c4_ : (a0.Tx == a1.Tx) = false := Bool.eq_false_iff.2 c4
   refine Chain.sub (Sub.bool 10 (b := (a0.Tx == a1.Tx)) rfl c4_) ?_
   refine Chain.sub (S' := mk 15 [] [(2, .ptr 2 0 0), (3, .ptr 3 0 0), (10, .b false)] [(2, some (.box [.i a0.Tx, .i a0.Kind, .d (.lit (.string a0.Key))])), (3, some (.box [.i a1.Tx, .i a1.Kind, .d (.lit (.string a1.Key))]))]) (by simp; exact Sub.table (by simp) (by simp)) ?_
   refine Chain.runK [] 2 fun K hK => ?_; simp; refine hK _ _ ?_; clear hK K
   refine Chain.sub (S' := mk 15 [] [(10, .b false), (11, .agg [.i a0.Tx, .i a0.Kind, .d (.lit (.string a0.Key))]), (12, .agg [.i a1.Tx, .i a1.Kind, .d (.lit (.string a1.Key))])] []) Sub.tt ?_
   replace h := bsome h; obtain ⟨r5, hr5, h⟩ := h
   refine Chain.callL (d := 13) (p40 N a0 a1 r5 hr5) (by simp) rfl rfl (by simp <;> rfl) (by simp <;> rfl) ent40 (by simp <;> rfl) ?_
   refine Chain.sub (S' := mk 15 [] [(10, .b false), (11, .agg [.i a0.Tx, .i a0.Kind, .d (.lit (.string a0.Key))]), (12, .agg [.i a1.Tx, .i a1.Kind, .d (.lit (.string a1.Key))]), (13, .b r5)] []) (by simp; exact Sub.table (by simp) (by simp)) ?_
   refine Chain.runK [] 2 fun K hK => ?_; simp; refine hK _ _ ?_; clear hK K
   refine Chain.sub (S' := mk 15 [] [(4, .b r5)] []) Sub.tt ?_
   cases h
   exact Chain.nil Sub.tt
 ·clear hj
  refine AW.ret ?_
  cases h
  exact FinC.ret (by simp) (by simp)

/-- slices.Clone[[]int,int] -/
def d37 (_ : Nat) (a0 : (List Int)) : Option (List Int) := if a0.length * 8 ≤ Rp.reach then some a0 else none
theorem p37 (N : Nat) (a0 : (List Int)) (r : (List Int)) (h : d37 N a0 = some r) : FunO Try.prog 37 [.d (.sl (a0.map (cI .i64)))] (.ref 0 0 r.length) (.arr 3 1 (r.map (cI .i64))) := by
 obtain ⟨hz, h⟩ := gsome h
 cases h
 refine FunO.enter 8 [(0, .d (.sl (a0.map (cI .i64))))] Try.func37 rfl (of_decide_eq_true rfl) rfl rfl ?_
 refine AW.goR [] 1 fun K hK => ?_; simp; refine hK _ ?_; clear hK K
 refine AW.seq ?_
 refine AW.seqR ?_
 refine Chain.runK [] 1 fun K hK => ?_; simp; refine hK _ _ ?_; clear hK K
 refine Chain.eqNilE (es := a0.map (cI .i64)) (by simp) rfl ty40 rfl (by simp) (by simp) fun b hb => ?_
 refine Chain.nil ?_
 cases b with
 | true =>
  have he : a0 = [] := by
   cases a0 with
   | nil => rfl
   | cons x xs => exact absurd (hb (by simp)) (by simp)
  subst he
  refine AW.condK fun K1 K2 k1 k2 => ?_; simp; refine k1 ?_; clear k1 k2 K1 K2
  refine AW.goR [] 1 fun K hK => ?_; simp; refine hK _ ?_; clear hK K
  refine AW.sub (Sub.nilOwn (t := 2) (id := 902) (T := 3) (n := 1) rfl rfl (by decide)) ?_
  refine AW.sub (S' := mk 8 [] [(2, .ref 902 0 0)] [(902, some (.arr 3 1 []))]) (by simp; exact Sub.table (by simp) (by simp)) ?_
  refine AW.ret ?_
  exact thenQ_pass (by simp) (FinO.ret (.ref 902 0 0) 902 (by simp) (by simp) (by simp) (by simp) rfl)
 | false =>
  refine AW.condK fun K1 K2 k1 k2 => ?_; simp; refine k2 ?_; clear k1 k2 K1 K2
  refine AW.skip ?_
  refine thenQ_normal ?_
  refine AW.goR [] 4 fun K hK => ?_; simp [hz]; refine hK _ ?_; clear hK K
  refine AW.sub (S' := mk 8 [] [(2, .ref 5 0 a0.length)] [(5, R3 a0)]) Sub.tt ?_
  refine AW.ret ?_
  exact FinO.ret (.ref 5 0 a0.length) 5 (by simp) (by simp) (by simp) (by simp) rfl

/-- slices.Clone[[]stemma/serializability.Operation,stemma/serializability.Operation] -/
def d38 (_ : Nat) (a0 : (List S27)) : Option (List S27) := if a0.length * 32 ≤ Rp.reach then some a0 else none
theorem p38 (N : Nat) (a0 : (List S27)) (r : (List S27)) (h : d38 N a0 = some r) : FunC Try.prog 38 [.d (.sl (a0.map cS27))] (.d (.sl (r.map cS27))) := by
 obtain ⟨hz, h⟩ := gsome h
 cases h
 refine FunC.enter 8 [(0, .d (.sl (a0.map cS27)))] (by simp) Try.func38 rfl (of_decide_eq_true rfl) rfl rfl ?_
 refine AW.goR [] 1 fun K hK => ?_; simp; refine hK _ ?_; clear hK K
 refine AW.seq ?_
 refine AW.seqR ?_
 refine Chain.runK [] 1 fun K hK => ?_; simp; refine hK _ _ ?_; clear hK K
 refine Chain.eqNilE (es := a0.map cS27) (by simp) rfl ty28 rfl (by simp) (by simp) fun b hb => ?_
 refine Chain.nil ?_
 cases b with
 | true =>
  have he : a0 = [] := by
   cases a0 with
   | nil => rfl
   | cons x xs => exact absurd (hb (by simp)) (by simp)
  subst he
  refine AW.condK fun K1 K2 k1 k2 => ?_; simp; refine k1 ?_; clear k1 k2 K1 K2
  refine AW.goR [] 1 fun K hK => ?_; simp; refine hK _ ?_; clear hK K
  refine AW.sub (Sub.wk 2 rfl) ?_
  refine AW.sub (S' := mk 8 [] [(2, .d (.sl []))] []) (by simp; exact Sub.table (by simp) (by simp)) ?_
  refine AW.ret ?_
  exact thenQ_pass (by simp) (FinC.ret (by simp) (by simp))
 | false =>
  refine AW.condK fun K1 K2 k1 k2 => ?_; simp; refine k2 ?_; clear k1 k2 K1 K2
  refine AW.skip ?_
  refine thenQ_normal ?_
  refine AW.goR [] 4 fun K hK => ?_; simp [hz]; refine hK _ ?_; clear hK K
  refine AW.sub (S' := mk 8 [] [(2, .ref 5 0 a0.length)] [(5, R27 a0)]) Sub.tt ?_
  refine AW.sub (Sub.freeze 5 rfl) ?_
  refine AW.sub (S' := mk 8 [] [(2, .d (.sl (a0.map cS27)))] []) (by simp; exact Sub.table (by simp) (by simp)) ?_
  refine AW.ret ?_
  exact FinC.ret (by simp) (by simp)

end Go.Proofs.Ytifcmomjjkbboaa
