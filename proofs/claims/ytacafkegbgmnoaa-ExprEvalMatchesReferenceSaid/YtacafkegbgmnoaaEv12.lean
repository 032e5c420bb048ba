/- Functions of the program as functional programs; the code computes them. -/
import Derived.Test.YtacafkegbgmnoaaEv11
namespace Go.Proofs.Ytacafkegbgmnoaa
open Go.Ab Go.Rp
attribute [-simp] List.all_eq_true Array.all_toList Array.all_eq_true

/-- stemma/stemlaw3.ExprEvalMatchesReference -/
def d4 (N : Nat) (a0 : S27) (a1 : (List S24)) (a2 : (List S24)) (a3 : (List S24)) : Option Bool :=
 (d5 N ).bind fun r1 =>
 if (!r1) = true then (
  some false
 ) else
 Option.bind (α := Bool) (
  (d6 N a0 150).bind fun r8 =>
  if r8 < 0 then (
   some true
  ) else
  if (a1.length : Int) > 10 then (
   some true
  ) else
  if (a2.length : Int) > 10 then (
   some true
  ) else
  some (decide ((a3.length : Int) > 20))
 ) fun (v7 : Bool) =>
 if v7 = true then (
  some true
 ) else
 (d9 N ([a1, a2, a3] : List (List S24))).bind fun r13 =>
 bindO (β := Unit) (ρ := Bool) (
  iterN (σ := Int) (ρ := (Out Unit Bool)) (fun (v19 : Int) =>
   if v19 < (r13.length : Int) then (
    (idx r13 v19).bind fun x34 =>
    (d10 N x34).bind fun r36 =>
    if (!r36) = true then (
     some (.inr (.ret true))
    ) else
    (chkI (v19 + 1)).bind fun v38 =>
    some (.inl v38)
   ) else
   some (.inr (.go ()))
  ) N 0
 ) fun (_ : Unit) =>
 (d11 N a1).bind fun r39 =>
 (d11 N a2).bind fun r40 =>
 Option.bind (α := ((List ByteArray) × (List (ByteArray × S24)) × (List S46))) (
  iterN (σ := ((List ByteArray) × (List (ByteArray × S24)) × (List S46) × Int)) (ρ := ((List ByteArray) × (List (ByteArray × S24)) × (List S46))) (fun ((l51, m52, l53, v54) : ((List ByteArray) × (List (ByteArray × S24)) × (List S46) × Int)) =>
   if v54 < (r40.length : Int) then (
    (idx l53 v54).bind fun x85 =>
    (natI 1 x85.Name.size).bind fun _ =>
    letv (x85.Name.extract 1 x85.Name.size) fun v88 =>
    (catB (ByteArray.mk #[118]) v88).bind fun v89 =>
    letv (setI l53 v54 (S46.mk v89 x85.Kind x85.Nullable)) fun l90 =>
    (idx l90 v54).bind fun x91 =>
    (appL 16 l51 [x91.Name]).bind fun _l92 =>
    (idx a2 v54).bind fun x93 =>
    (chkI (v54 + 1)).bind fun v94 =>
    some (.inl ((l51 ++ [x91.Name]), (mput m52 x91.Name x93), l90, v94))
   ) else
   some (.inr (l51, m52, l53))
  ) N (([] : List ByteArray), ([] : List (ByteArray × S24)), r40, 0)
 ) fun ((l81, m82, l83) : ((List ByteArray) × (List (ByteArray × S24)) × (List S46))) =>
 Option.bind (α := List (ByteArray × S24)) (
  iterN (σ := ((List (ByteArray × S24)) × Int)) (ρ := List (ByteArray × S24)) (fun ((m99, v100) : ((List (ByteArray × S24)) × Int)) =>
   if v100 < (r39.length : Int) then (
    (idx r39 v100).bind fun x115 =>
    (idx a1 v100).bind fun x117 =>
    (chkI (v100 + 1)).bind fun v118 =>
    some (.inl ((mput m99 x115.Name x117), v118))
   ) else
   some (.inr m99)
  ) N (([] : List (ByteArray × S24)), 0)
 ) fun (m113 : List (ByteArray × S24)) =>
 (d7 N r39 l83 a0).bind fun r119 =>
 if (r119.2.2 != 0) then (
  some true
 ) else
 (d12 N (S41.mk r39 a1 a3 l81 a2) a0).bind fun r122 =>
 (d13 N (S44.mk m113 m82 a3) a0).bind fun r123 =>
 some (beqS24 r122 r123)
set_option maxRecDepth 100000 in
set_option maxHeartbeats 4000000 in
theorem p4 (N : Nat) (a0 : S27) (a1 : (List S24)) (a2 : (List S24)) (a3 : (List S24)) (r : Bool) (h : d4 N a0 a1 a2 a3 = some r) : FunC Try.prog 4 [.agg [.d (.lit (.int .i64 a0.Kind)), .d (.lit (.string a0.Name)), .d (.lit (.int .i64 a0.Index)), .d (.lit (.int .i64 a0.Value.Kind)), .d (.lit (.int .i64 a0.Value.Int)), .d (.lit (.string a0.Value.Text)), .d (.sl (a0.Args.map cS27))], .d (.sl (a1.map cS24)), .d (.sl (a2.map cS24)), .d (.sl (a3.map cS24))] (.d (.lit (.bool r))) := by
 unfold d4 at h
 refine FunC.enter 139 [(0, .agg [.d (.lit (.int .i64 a0.Kind)), .d (.lit (.string a0.Name)), .d (.lit (.int .i64 a0.Index)), .d (.lit (.int .i64 a0.Value.Kind)), .d (.lit (.int .i64 a0.Value.Int)), .d (.lit (.string a0.Value.Text)), .d (.sl (a0.Args.map cS27))]), (1, .d (.sl (a1.map cS24))), (2, .d (.sl (a2.map cS24))), (3, .d (.sl (a3.map cS24)))] (by simp) Try.func4 rfl (of_decide_eq_true rfl) rfl rfl ?_
 refine AW.seqR ?_
 refine Chain.runK [] 2 fun K hK => ?_; simp; refine hK _ _ ?_; clear hK K
 refine Chain.sub (S' := mk 139 [] [(1, .d (.sl (a1.map cS24))), (2, .d (.sl (a2.map cS24))), (3, .d (.sl (a3.map cS24))), (4, .ptr 4 0 0)] [(4, some (.box [.d (.lit (.int .i64 a0.Kind)), .d (.lit (.string a0.Name)), .d (.lit (.int .i64 a0.Index)), .d (.lit (.int .i64 a0.Value.Kind)), .d (.lit (.int .i64 a0.Value.Int)), .d (.lit (.string a0.Value.Text)), .d (.sl (a0.Args.map cS27))]))]) Sub.tt ?_
 refine Chain.nil ?_
 refine AW.seq ?_
 refine AW.seqR ?_
 replace h := bsome h; obtain ⟨r1, hr1, h⟩ := h
 refine Chain.callL (d := 20) (p5 N  r1 hr1) (by simp) rfl rfl (by simp <;> rfl) (by simp <;> rfl) ent5 (by simp <;> rfl) ?_
 refine Chain.sub (S' := mk 139 [] [(1, .d (.sl (a1.map cS24))), (2, .d (.sl (a2.map cS24))), (3, .d (.sl (a3.map cS24))), (4, .ptr 4 0 0), (20, .d (.lit (.bool r1)))] [(4, some (.box [.d (.lit (.int .i64 a0.Kind)), .d (.lit (.string a0.Name)), .d (.lit (.int .i64 a0.Index)), .d (.lit (.int .i64 a0.Value.Kind)), .d (.lit (.int .i64 a0.Value.Int)), .d (.lit (.string a0.Value.Text)), .d (.sl (a0.Args.map cS27))]))]) (by simp; exact Sub.table (by simp) (by simp)) ?_
 refine Chain.runK [] 1 fun K hK => ?_; simp; refine hK _ _ ?_; clear hK K
 refine Chain.sub (S' := mk 139 [] [(1, .d (.sl (a1.map cS24))), (2, .d (.sl (a2.map cS24))), (3, .d (.sl (a3.map cS24))), (4, .ptr 4 0 0), (21, .d (.lit (.bool (!r1))))] [(4, some (.box [.d (.lit (.int .i64 a0.Kind)), .d (.lit (.string a0.Name)), .d (.lit (.int .i64 a0.Index)), .d (.lit (.int .i64 a0.Value.Kind)), .d (.lit (.int .i64 a0.Value.Int)), .d (.lit (.string a0.Value.Text)), .d (.sl (a0.Args.map cS27))]))]) Sub.tt ?_
 refine Chain.nil ?_
 replace h := isome h; rcases h with ⟨c2, h⟩ | ⟨c2, h⟩
 ·have c2_ : (!r1) = true := c2
  refine AW.condT (b := (!r1)) rfl c2_ ?_
  refine AW.sub (Sub.bool 21 (b := (!r1)) rfl c2_) ?_
  refine AW.sub (S' := mk 139 [] [(1, .d (.sl (a1.map cS24))), (2, .d (.sl (a2.map cS24))), (3, .d (.sl (a3.map cS24))), (4, .ptr 4 0 0), (21, .d (.lit (.bool true)))] [(4, some (.box [.d (.lit (.int .i64 a0.Kind)), .d (.lit (.string a0.Name)), .d (.lit (.int .i64 a0.Index)), .d (.lit (.int .i64 a0.Value.Kind)), .d (.lit (.int .i64 a0.Value.Int)), .d (.lit (.string a0.Value.Text)), .d (.sl (a0.Args.map cS27))]))]) (by simp; exact Sub.table (by simp) (by simp)) ?_
  refine AW.seqR ?_
  refine Chain.runK [] 1 fun K hK => ?_; simp; refine hK _ _ ?_; clear hK K
  refine Chain.sub (S' := mk 139 [] [(8, .d (.lit (.bool false)))] []) Sub.tt ?_
  refine Chain.nil ?_
  refine AW.ret ?_
  cases h
  refine thenQ_pass (by simp) ?_
  exact FinC.ret (by simp) (by simp)
 ·have c2_ : (!r1) = false := Bool.eq_false_iff.2 c2
  refine AW.condF (b := (!r1)) rfl c2_ ?_
  refine AW.sub (Sub.bool 21 (b := (!r1)) rfl c2_) ?_
  refine AW.sub (S' := mk 139 [] [(1, .d (.sl (a1.map cS24))), (2, .d (.sl (a2.map cS24))), (3, .d (.sl (a3.map cS24))), (4, .ptr 4 0 0), (21, .d (.lit (.bool false)))] [(4, some (.box [.d (.lit (.int .i64 a0.Kind)), .d (.lit (.string a0.Name)), .d (.lit (.int .i64 a0.Index)), .d (.lit (.int .i64 a0.Value.Kind)), .d (.lit (.int .i64 a0.Value.Int)), .d (.lit (.string a0.Value.Text)), .d (.sl (a0.Args.map cS27))]))]) (by simp; exact Sub.table (by simp) (by simp)) ?_
  refine AW.skip ?_
  refine thenQ_normal ?_
  refine AW.seq ?_
  replace h := bsome h; obtain ⟨v7, hj, h⟩ := h
  refine AW.cutR (mk 139 [] [(1, .d (.sl (a1.map cS24))), (2, .d (.sl (a2.map cS24))), (3, .d (.sl (a3.map cS24))), (4, .ptr 4 0 0), (39, .d (.lit (.bool v7)))] [(4, some (.box [.d (.lit (.int .i64 a0.Kind)), .d (.lit (.string a0.Name)), .d (.lit (.int .i64 a0.Index)), .d (.lit (.int .i64 a0.Value.Kind)), .d (.lit (.int .i64 a0.Value.Int)), .d (.lit (.string a0.Value.Text)), .d (.sl (a0.Args.map cS27))]))]) ?_ ?_
  ·clear h; have h := hj; clear hj
   refine Chain.runK [] 1 fun K hK => ?_; simp; refine hK _ _ ?_; clear hK K
   refine Chain.sub (S' := mk 139 [] [(1, .d (.sl (a1.map cS24))), (2, .d (.sl (a2.map cS24))), (3, .d (.sl (a3.map cS24))), (4, .ptr 4 0 0), (22, .agg [.d (.lit (.int .i64 a0.Kind)), .d (.lit (.string a0.Name)), .d (.lit (.int .i64 a0.Index)), .d (.lit (.int .i64 a0.Value.Kind)), .d (.lit (.int .i64 a0.Value.Int)), .d (.lit (.string a0.Value.Text)), .d (.sl (a0.Args.map cS27))])] [(4, some (.box [.d (.lit (.int .i64 a0.Kind)), .d (.lit (.string a0.Name)), .d (.lit (.int .i64 a0.Index)), .d (.lit (.int .i64 a0.Value.Kind)), .d (.lit (.int .i64 a0.Value.Int)), .d (.lit (.string a0.Value.Text)), .d (.sl (a0.Args.map cS27))]))]) Sub.tt ?_
   replace h := bsome h; obtain ⟨r8, hr8, h⟩ := h
   refine Chain.callL (d := 23) (p6 N a0 150 r8 hr8) (by simp) rfl rfl (by simp <;> rfl) (by simp <;> rfl) ent6 (by simp <;> rfl) ?_
   refine Chain.sub (S' := mk 139 [] [(1, .d (.sl (a1.map cS24))), (2, .d (.sl (a2.map cS24))), (3, .d (.sl (a3.map cS24))), (4, .ptr 4 0 0), (22, .agg [.d (.lit (.int .i64 a0.Kind)), .d (.lit (.string a0.Name)), .d (.lit (.int .i64 a0.Index)), .d (.lit (.int .i64 a0.Value.Kind)), .d (.lit (.int .i64 a0.Value.Int)), .d (.lit (.string a0.Value.Text)), .d (.sl (a0.Args.map cS27))]), (23, .d (.lit (.int .i64 r8)))] [(4, some (.box [.d (.lit (.int .i64 a0.Kind)), .d (.lit (.string a0.Name)), .d (.lit (.int .i64 a0.Index)), .d (.lit (.int .i64 a0.Value.Kind)), .d (.lit (.int .i64 a0.Value.Int)), .d (.lit (.string a0.Value.Text)), .d (.sl (a0.Args.map cS27))]))]) (by simp; exact Sub.table (by simp) (by simp)) ?_
   refine Chain.runK [] 2 fun K hK => ?_; simp; refine hK _ _ ?_; clear hK K
   refine Chain.sub (S' := mk 139 [] [(1, .d (.sl (a1.map cS24))), (2, .d (.sl (a2.map cS24))), (3, .d (.sl (a3.map cS24))), (4, .ptr 4 0 0), (25, .d (.lit (.bool (decide (r8 < 0)))))] [(4, some (.box [.d (.lit (.int .i64 a0.Kind)), .d (.lit (.string a0.Name)), .d (.lit (.int .i64 a0.Index)), .d (.lit (.int .i64 a0.Value.Kind)), .d (.lit (.int .i64 a0.Value.Int)), .d (.lit (.string a0.Value.Text)), .d (.sl (a0.Args.map cS27))]))]) Sub.tt ?_
   replace h := isome h; rcases h with ⟨c9, h⟩ | ⟨c9, h⟩
   ·have c9_ : decide (r8 < 0) = true := decide_eq_true c9
    refine Chain.sub (Sub.bool 25 (b := decide (r8 < 0)) rfl c9_) ?_
    refine Chain.sub (S' := mk 139 [] [(1, .d (.sl (a1.map cS24))), (2, .d (.sl (a2.map cS24))), (3, .d (.sl (a3.map cS24))), (4, .ptr 4 0 0), (25, .d (.lit (.bool true)))] [(4, some (.box [.d (.lit (.int .i64 a0.Kind)), .d (.lit (.string a0.Name)), .d (.lit (.int .i64 a0.Index)), .d (.lit (.int .i64 a0.Value.Kind)), .d (.lit (.int .i64 a0.Value.Int)), .d (.lit (.string a0.Value.Text)), .d (.sl (a0.Args.map cS27))]))]) (by simp; exact Sub.table (by simp) (by simp)) ?_
    refine Chain.runK [] 14 fun K hK => ?_; simp; refine hK _ _ ?_; clear hK K
    refine Chain.sub (S' := mk 139 [] [(1, .d (.sl (a1.map cS24))), (2, .d (.sl (a2.map cS24))), (3, .d (.sl (a3.map cS24))), (4, .ptr 4 0 0), (39, .d (.lit (.bool true)))] [(4, some (.box [.d (.lit (.int .i64 a0.Kind)), .d (.lit (.string a0.Name)), .d (.lit (.int .i64 a0.Index)), .d (.lit (.int .i64 a0.Value.Kind)), .d (.lit (.int .i64 a0.Value.Int)), .d (.lit (.string a0.Value.Text)), .d (.sl (a0.Args.map cS27))]))]) Sub.tt ?_
    cases h
    exact Chain.nil Sub.tt
   ·have c9_ : decide (r8 < 0) = false := decide_eq_false c9
    refine Chain.sub (Sub.bool 25 (b := decide (r8 < 0)) rfl c9_) ?_
    refine Chain.sub (S' := mk 139 [] [(1, .d (.sl (a1.map cS24))), (2, .d (.sl (a2.map cS24))), (3, .d (.sl (a3.map cS24))), (4, .ptr 4 0 0), (25, .d (.lit (.bool false)))] [(4, some (.box [.d (.lit (.int .i64 a0.Kind)), .d (.lit (.string a0.Name)), .d (.lit (.int .i64 a0.Index)), .d (.lit (.int .i64 a0.Value.Kind)), .d (.lit (.int .i64 a0.Value.Int)), .d (.lit (.string a0.Value.Text)), .d (.sl (a0.Args.map cS27))]))]) (by simp; exact Sub.table (by simp) (by simp)) ?_
    refine Chain.runK [] 5 fun K hK => ?_; simp; refine hK _ _ ?_; clear hK K
    refine Chain.sub (S' := mk 139 [] [(1, .d (.sl (a1.map cS24))), (2, .d (.sl (a2.map cS24))), (3, .d (.sl (a3.map cS24))), (4, .ptr 4 0 0), (30, .d (.lit (.bool (decide ((a1.length : Int) > 10)))))] [(4, some (.box [.d (.lit (.int .i64 a0.Kind)), .d (.lit (.string a0.Name)), .d (.lit (.int .i64 a0.Index)), .d (.lit (.int .i64 a0.Value.Kind)), .d (.lit (.int .i64 a0.Value.Int)), .d (.lit (.string a0.Value.Text)), .d (.sl (a0.Args.map cS27))]))]) Sub.tt ?_
    replace h := isome h; rcases h with ⟨c10, h⟩ | ⟨c10, h⟩
    ·have c10_ : decide ((a1.length : Int) > 10) = true := decide_eq_true c10
     refine Chain.sub (Sub.bool 30 (b := decide ((a1.length : Int) > 10)) rfl c10_) ?_
     refine Chain.sub (S' := mk 139 [] [(1, .d (.sl (a1.map cS24))), (2, .d (.sl (a2.map cS24))), (3, .d (.sl (a3.map cS24))), (4, .ptr 4 0 0), (30, .d (.lit (.bool true)))] [(4, some (.box [.d (.lit (.int .i64 a0.Kind)), .d (.lit (.string a0.Name)), .d (.lit (.int .i64 a0.Index)), .d (.lit (.int .i64 a0.Value.Kind)), .d (.lit (.int .i64 a0.Value.Int)), .d (.lit (.string a0.Value.Text)), .d (.sl (a0.Args.map cS27))]))]) (by simp; exact Sub.table (by simp) (by simp)) ?_
     refine Chain.runK [] 9 fun K hK => ?_; simp; refine hK _ _ ?_; clear hK K
     refine Chain.sub (S' := mk 139 [] [(1, .d (.sl (a1.map cS24))), (2, .d (.sl (a2.map cS24))), (3, .d (.sl (a3.map cS24))), (4, .ptr 4 0 0), (39, .d (.lit (.bool true)))] [(4, some (.box [.d (.lit (.int .i64 a0.Kind)), .d (.lit (.string a0.Name)), .d (.lit (.int .i64 a0.Index)), .d (.lit (.int .i64 a0.Value.Kind)), .d (.lit (.int .i64 a0.Value.Int)), .d (.lit (.string a0.Value.Text)), .d (.sl (a0.Args.map cS27))]))]) Sub.tt ?_
     cases h
     exact Chain.nil Sub.tt
    ·have c10_ : decide ((a1.length : Int) > 10) = false := decide_eq_false c10
     refine Chain.sub (Sub.bool 30 (b := decide ((a1.length : Int) > 10)) rfl c10_) ?_
     refine Chain.sub (S' := mk 139 [] [(1, .d (.sl (a1.map cS24))), (2, .d (.sl (a2.map cS24))), (3, .d (.sl (a3.map cS24))), (4, .ptr 4 0 0), (30, .d (.lit (.bool false)))] [(4, some (.box [.d (.lit (.int .i64 a0.Kind)), .d (.lit (.string a0.Name)), .d (.lit (.int .i64 a0.Index)), .d (.lit (.int .i64 a0.Value.Kind)), .d (.lit (.int .i64 a0.Value.Int)), .d (.lit (.string a0.Value.Text)), .d (.sl (a0.Args.map cS27))]))]) (by simp; exact Sub.table (by simp) (by simp)) ?_
     refine Chain.runK [] 5 fun K hK => ?_; simp; refine hK _ _ ?_; clear hK K
     refine Chain.sub (S' := mk 139 [] [(1, .d (.sl (a1.map cS24))), (2, .d (.sl (a2.map cS24))), (3, .d (.sl (a3.map cS24))), (4, .ptr 4 0 0), (35, .d (.lit (.bool (decide ((a2.length : Int) > 10)))))] [(4, some (.box [.d (.lit (.int .i64 a0.Kind)), .d (.lit (.string a0.Name)), .d (.lit (.int .i64 a0.Index)), .d (.lit (.int .i64 a0.Value.Kind)), .d (.lit (.int .i64 a0.Value.Int)), .d (.lit (.string a0.Value.Text)), .d (.sl (a0.Args.map cS27))]))]) Sub.tt ?_
     replace h := isome h; rcases h with ⟨c11, h⟩ | ⟨c11, h⟩
     ·have c11_ : decide ((a2.length : Int) > 10) = true := decide_eq_true c11
      refine Chain.sub (Sub.bool 35 (b := decide ((a2.length : Int) > 10)) rfl c11_) ?_
      refine Chain.sub (S' := mk 139 [] [(1, .d (.sl (a1.map cS24))), (2, .d (.sl (a2.map cS24))), (3, .d (.sl (a3.map cS24))), (4, .ptr 4 0 0), (35, .d (.lit (.bool true)))] [(4, some (.box [.d (.lit (.int .i64 a0.Kind)), .d (.lit (.string a0.Name)), .d (.lit (.int .i64 a0.Index)), .d (.lit (.int .i64 a0.Value.Kind)), .d (.lit (.int .i64 a0.Value.Int)), .d (.lit (.string a0.Value.Text)), .d (.sl (a0.Args.map cS27))]))]) (by simp; exact Sub.table (by simp) (by simp)) ?_
      refine Chain.runK [] 4 fun K hK => ?_; simp; refine hK _ _ ?_; clear hK K
      refine Chain.sub (S' := mk 139 [] [(1, .d (.sl (a1.map cS24))), (2, .d (.sl (a2.map cS24))), (3, .d (.sl (a3.map cS24))), (4, .ptr 4 0 0), (39, .d (.lit (.bool true)))] [(4, some (.box [.d (.lit (.int .i64 a0.Kind)), .d (.lit (.string a0.Name)), .d (.lit (.int .i64 a0.Index)), .d (.lit (.int .i64 a0.Value.Kind)), .d (.lit (.int .i64 a0.Value.Int)), .d (.lit (.string a0.Value.Text)), .d (.sl (a0.Args.map cS27))]))]) Sub.tt ?_
      cases h
      exact Chain.nil Sub.tt
     ·have c11_ : decide ((a2.length : Int) > 10) = false := decide_eq_false c11
      refine Chain.sub (Sub.bool 35 (b := decide ((a2.length : Int) > 10)) rfl c11_) ?_
      refine Chain.sub (S' := mk 139 [] [(1, .d (.sl (a1.map cS24))), (2, .d (.sl (a2.map cS24))), (3, .d (.sl (a3.map cS24))), (4, .ptr 4 0 0), (35, .d (.lit (.bool false)))] [(4, some (.box [.d (.lit (.int .i64 a0.Kind)), .d (.lit (.string a0.Name)), .d (.lit (.int .i64 a0.Index)), .d (.lit (.int .i64 a0.Value.Kind)), .d (.lit (.int .i64 a0.Value.Int)), .d (.lit (.string a0.Value.Text)), .d (.sl (a0.Args.map cS27))]))]) (by simp; exact Sub.table (by simp) (by simp)) ?_
      refine Chain.runK [] 4 fun K hK => ?_; simp; refine hK _ _ ?_; clear hK K
      refine Chain.sub (S' := mk 139 [] [(1, .d (.sl (a1.map cS24))), (2, .d (.sl (a2.map cS24))), (3, .d (.sl (a3.map cS24))), (4, .ptr 4 0 0), (39, .d (.lit (.bool (decide ((a3.length : Int) > 20)))))] [(4, some (.box [.d (.lit (.int .i64 a0.Kind)), .d (.lit (.string a0.Name)), .d (.lit (.int .i64 a0.Index)), .d (.lit (.int .i64 a0.Value.Kind)), .d (.lit (.int .i64 a0.Value.Int)), .d (.lit (.string a0.Value.Text)), .d (.sl (a0.Args.map cS27))]))]) Sub.tt ?_
      cases h
      exact Chain.nil Sub.tt
  ·clear hj
   replace h := isome h; rcases h with ⟨c12, h⟩ | ⟨c12, h⟩
   ·have c12_ : v7 = true := c12
    refine AW.condT (b := v7) rfl c12_ ?_
    refine AW.sub (Sub.bool 39 (b := v7) rfl c12_) ?_
    refine AW.sub (S' := mk 139 [] [(1, .d (.sl (a1.map cS24))), (2, .d (.sl (a2.map cS24))), (3, .d (.sl (a3.map cS24))), (4, .ptr 4 0 0), (39, .d (.lit (.bool true)))] [(4, some (.box [.d (.lit (.int .i64 a0.Kind)), .d (.lit (.string a0.Name)), .d (.lit (.int .i64 a0.Index)), .d (.lit (.int .i64 a0.Value.Kind)), .d (.lit (.int .i64 a0.Value.Int)), .d (.lit (.string a0.Value.Text)), .d (.sl (a0.Args.map cS27))]))]) (by simp; exact Sub.table (by simp) (by simp)) ?_
    refine AW.seqR ?_
    refine Chain.runK [] 1 fun K hK => ?_; simp; refine hK _ _ ?_; clear hK K
    refine Chain.sub (S' := mk 139 [] [(8, .d (.lit (.bool true)))] []) Sub.tt ?_
    refine Chain.nil ?_
    refine AW.ret ?_
    cases h
    refine thenQ_pass (by simp) ?_
    exact FinC.ret (by simp) (by simp)
   ·have c12_ : v7 = false := Bool.eq_false_iff.2 c12
    refine AW.condF (b := v7) rfl c12_ ?_
    refine AW.sub (Sub.bool 39 (b := v7) rfl c12_) ?_
    refine AW.sub (S' := mk 139 [] [(1, .d (.sl (a1.map cS24))), (2, .d (.sl (a2.map cS24))), (3, .d (.sl (a3.map cS24))), (4, .ptr 4 0 0), (39, .d (.lit (.bool false)))] [(4, some (.box [.d (.lit (.int .i64 a0.Kind)), .d (.lit (.string a0.Name)), .d (.lit (.int .i64 a0.Index)), .d (.lit (.int .i64 a0.Value.Kind)), .d (.lit (.int .i64 a0.Value.Int)), .d (.lit (.string a0.Value.Text)), .d (.sl (a0.Args.map cS27))]))]) (by simp; exact Sub.table (by simp) (by simp)) ?_
    refine AW.skip ?_
    refine thenQ_normal ?_
    refine AW.seq ?_
    refine AW.seqR ?_
    refine Chain.runK [] 4 fun K hK => ?_; simp; refine hK _ _ ?_; clear hK K
    refine Chain.sub (S' := mk 139 [] [(1, .d (.sl (a1.map cS24))), (2, .d (.sl (a2.map cS24))), (3, .d (.sl (a3.map cS24))), (4, .ptr 4 0 0), (43, .ref 43 0 (([a1, a2, a3] : List (List S24)).length))] [(4, some (.box [.d (.lit (.int .i64 a0.Kind)), .d (.lit (.string a0.Name)), .d (.lit (.int .i64 a0.Index)), .d (.lit (.int .i64 a0.Value.Kind)), .d (.lit (.int .i64 a0.Value.Int)), .d (.lit (.string a0.Value.Text)), .d (.sl (a0.Args.map cS27))])), (43, some (.arr 35 1 (([a1, a2, a3] : List (List S24)).map (cL cS24))))]) Sub.tt ?_
    refine Chain.sub (Sub.freeze 43 rfl) ?_
    refine Chain.sub (S' := mk 139 [] [(1, .d (.sl (a1.map cS24))), (2, .d (.sl (a2.map cS24))), (3, .d (.sl (a3.map cS24))), (4, .ptr 4 0 0), (43, .d (.sl (([a1, a2, a3] : List (List S24)).map (cL cS24))))] [(4, some (.box [.d (.lit (.int .i64 a0.Kind)), .d (.lit (.string a0.Name)), .d (.lit (.int .i64 a0.Index)), .d (.lit (.int .i64 a0.Value.Kind)), .d (.lit (.int .i64 a0.Value.Int)), .d (.lit (.string a0.Value.Text)), .d (.sl (a0.Args.map cS27))]))]) (by simp; exact Sub.table (by simp) (by simp)) ?_
    replace h := bsome h; obtain ⟨r13, hr13, h⟩ := h
    refine Chain.callC (d := 44) (p9 N ([a1, a2, a3] : List (List S24)) r13 hr13) (by simp) rfl rfl (by simp <;> rfl) (by simp <;> rfl) ent9 (by simp) (.inl ⟨by simp, by simp⟩) ?_
    refine Chain.sub (S' := mk 139 [] [(1, .d (.sl (a1.map cS24))), (2, .d (.sl (a2.map cS24))), (3, .d (.sl (a3.map cS24))), (4, .ptr 4 0 0), (43, .d (.sl (([a1, a2, a3] : List (List S24)).map (cL cS24)))), (44, .d (.sl (r13.map cS24)))] [(4, some (.box [.d (.lit (.int .i64 a0.Kind)), .d (.lit (.string a0.Name)), .d (.lit (.int .i64 a0.Index)), .d (.lit (.int .i64 a0.Value.Kind)), .d (.lit (.int .i64 a0.Value.Int)), .d (.lit (.string a0.Value.Text)), .d (.sl (a0.Args.map cS27))]))]) (by simp; exact Sub.table (by simp) (by simp)) ?_
    refine Chain.runK [] 2 fun K hK => ?_; simp; refine hK _ _ ?_; clear hK K
    refine Chain.sub (S' := mk 139 [] [(1, .d (.sl (a1.map cS24))), (2, .d (.sl (a2.map cS24))), (3, .d (.sl (a3.map cS24))), (4, .ptr 4 0 0), (44, .d (.sl (r13.map cS24))), (45, .d (.lit (.int .i64 (r13.length : Int)))), (46, .d (.lit (.int .i64 0)))] [(4, some (.box [.d (.lit (.int .i64 a0.Kind)), .d (.lit (.string a0.Name)), .d (.lit (.int .i64 a0.Index)), .d (.lit (.int .i64 a0.Value.Kind)), .d (.lit (.int .i64 a0.Value.Int)), .d (.lit (.string a0.Value.Text)), .d (.sl (a0.Args.map cS27))]))]) Sub.tt ?_
    refine Chain.nil ?_
    refine AW.lastJ (fun (_ : Unit) => mk 139 [] [(1, .d (.sl (a1.map cS24))), (2, .d (.sl (a2.map cS24))), (3, .d (.sl (a3.map cS24))), (4, .ptr 4 0 0)] [(4, some (.box [.d (.lit (.int .i64 a0.Kind)), .d (.lit (.string a0.Name)), .d (.lit (.int .i64 a0.Index)), .d (.lit (.int .i64 a0.Value.Kind)), .d (.lit (.int .i64 a0.Value.Int)), .d (.lit (.string a0.Value.Text)), .d (.sl (a0.Args.map cS27))]))]) h ?_ ?_ <;> clear h
    ·intro o h
     refine AW.block ?_
     refine AW.iter (fun (v19 : Int) => mk 139 [] [(1, .d (.sl (a1.map cS24))), (2, .d (.sl (a2.map cS24))), (3, .d (.sl (a3.map cS24))), (4, .ptr 4 0 0), (44, .d (.sl (r13.map cS24))), (45, .d (.lit (.int .i64 (r13.length : Int)))), (46, .d (.lit (.int .i64 v19)))] [(4, some (.box [.d (.lit (.int .i64 a0.Kind)), .d (.lit (.string a0.Name)), .d (.lit (.int .i64 a0.Index)), .d (.lit (.int .i64 a0.Value.Kind)), .d (.lit (.int .i64 a0.Value.Int)), .d (.lit (.string a0.Value.Text)), .d (.sl (a0.Args.map cS27))]))]) h Sub.tt ?_
     clear h
     rintro v19 x h
     refine AW.seqR ?_
     refine Chain.runK [] 1 fun K hK => ?_; simp; refine hK _ _ ?_; clear hK K
     refine Chain.sub (S' := mk 139 [] [(1, .d (.sl (a1.map cS24))), (2, .d (.sl (a2.map cS24))), (3, .d (.sl (a3.map cS24))), (4, .ptr 4 0 0), (44, .d (.sl (r13.map cS24))), (45, .d (.lit (.int .i64 (r13.length : Int)))), (46, .d (.lit (.int .i64 v19))), (47, .d (.lit (.bool (decide (v19 < (r13.length : Int))))))] [(4, some (.box [.d (.lit (.int .i64 a0.Kind)), .d (.lit (.string a0.Name)), .d (.lit (.int .i64 a0.Index)), .d (.lit (.int .i64 a0.Value.Kind)), .d (.lit (.int .i64 a0.Value.Int)), .d (.lit (.string a0.Value.Text)), .d (.sl (a0.Args.map cS27))]))]) Sub.tt ?_
     refine Chain.nil ?_
     refine AW.seq ?_
     replace h := isome h; rcases h with ⟨c33, h⟩ | ⟨c33, h⟩
     ·have c33_ : decide (v19 < (r13.length : Int)) = true := decide_eq_true c33
      refine AW.condT (b := decide (v19 < (r13.length : Int))) rfl c33_ ?_
      refine AW.sub (Sub.bool 47 (b := decide (v19 < (r13.length : Int))) rfl c33_) ?_
      refine AW.sub (S' := mk 139 [] [(1, .d (.sl (a1.map cS24))), (2, .d (.sl (a2.map cS24))), (3, .d (.sl (a3.map cS24))), (4, .ptr 4 0 0), (44, .d (.sl (r13.map cS24))), (45, .d (.lit (.int .i64 (r13.length : Int)))), (46, .d (.lit (.int .i64 v19))), (47, .d (.lit (.bool true)))] [(4, some (.box [.d (.lit (.int .i64 a0.Kind)), .d (.lit (.string a0.Name)), .d (.lit (.int .i64 a0.Index)), .d (.lit (.int .i64 a0.Value.Kind)), .d (.lit (.int .i64 a0.Value.Int)), .d (.lit (.string a0.Value.Text)), .d (.sl (a0.Args.map cS27))]))]) (by simp; exact Sub.table (by simp) (by simp)) ?_
      refine AW.skip ?_
      refine thenQ_normal ?_
      refine AW.seq ?_
      refine AW.block ?_
      refine AW.seqR ?_
      replace h := bsome h; obtain ⟨x34, hx34, h⟩ := h
      obtain ⟨k35, hx34k, hx34, hx34a, hx34b⟩ := idx_some hx34
      refine Chain.runK [] 4 fun K hK => ?_; simp [hx34, hx34k, hx34a]; refine hK _ _ ?_; clear hK K
      refine Chain.sub (S' := mk 139 [] [(1, .d (.sl (a1.map cS24))), (2, .d (.sl (a2.map cS24))), (3, .d (.sl (a3.map cS24))), (4, .ptr 4 0 0), (10, .ptr 10 0 0), (44, .d (.sl (r13.map cS24))), (45, .d (.lit (.int .i64 (r13.length : Int)))), (46, .d (.lit (.int .i64 v19)))] [(4, some (.box [.d (.lit (.int .i64 a0.Kind)), .d (.lit (.string a0.Name)), .d (.lit (.int .i64 a0.Index)), .d (.lit (.int .i64 a0.Value.Kind)), .d (.lit (.int .i64 a0.Value.Int)), .d (.lit (.string a0.Value.Text)), .d (.sl (a0.Args.map cS27))])), (10, some (.box [.d (.lit (.int .i64 x34.Kind)), .d (.lit (.int .i64 x34.Int)), .d (.lit (.string x34.Text))]))]) Sub.tt ?_
      refine Chain.nil ?_
      refine AW.seqR ?_
      refine Chain.runK [] 1 fun K hK => ?_; simp; refine hK _ _ ?_; clear hK K
      refine Chain.sub (S' := mk 139 [] [(1, .d (.sl (a1.map cS24))), (2, .d (.sl (a2.map cS24))), (3, .d (.sl (a3.map cS24))), (4, .ptr 4 0 0), (44, .d (.sl (r13.map cS24))), (45, .d (.lit (.int .i64 (r13.length : Int)))), (46, .d (.lit (.int .i64 v19))), (50, .agg [.d (.lit (.int .i64 x34.Kind)), .d (.lit (.int .i64 x34.Int)), .d (.lit (.string x34.Text))])] [(4, some (.box [.d (.lit (.int .i64 a0.Kind)), .d (.lit (.string a0.Name)), .d (.lit (.int .i64 a0.Index)), .d (.lit (.int .i64 a0.Value.Kind)), .d (.lit (.int .i64 a0.Value.Int)), .d (.lit (.string a0.Value.Text)), .d (.sl (a0.Args.map cS27))]))]) Sub.tt ?_
      replace h := bsome h; obtain ⟨r36, hr36, h⟩ := h
      refine Chain.callL (d := 51) (p10 N x34 r36 hr36) (by simp) rfl rfl (by simp <;> rfl) (by simp <;> rfl) ent10 (by simp <;> rfl) ?_
      refine Chain.sub (S' := mk 139 [] [(1, .d (.sl (a1.map cS24))), (2, .d (.sl (a2.map cS24))), (3, .d (.sl (a3.map cS24))), (4, .ptr 4 0 0), (44, .d (.sl (r13.map cS24))), (45, .d (.lit (.int .i64 (r13.length : Int)))), (46, .d (.lit (.int .i64 v19))), (50, .agg [.d (.lit (.int .i64 x34.Kind)), .d (.lit (.int .i64 x34.Int)), .d (.lit (.string x34.Text))]), (51, .d (.lit (.bool r36)))] [(4, some (.box [.d (.lit (.int .i64 a0.Kind)), .d (.lit (.string a0.Name)), .d (.lit (.int .i64 a0.Index)), .d (.lit (.int .i64 a0.Value.Kind)), .d (.lit (.int .i64 a0.Value.Int)), .d (.lit (.string a0.Value.Text)), .d (.sl (a0.Args.map cS27))]))]) (by simp; exact Sub.table (by simp) (by simp)) ?_
      refine Chain.runK [] 1 fun K hK => ?_; simp; refine hK _ _ ?_; clear hK K
      refine Chain.sub (S' := mk 139 [] [(1, .d (.sl (a1.map cS24))), (2, .d (.sl (a2.map cS24))), (3, .d (.sl (a3.map cS24))), (4, .ptr 4 0 0), (44, .d (.sl (r13.map cS24))), (45, .d (.lit (.int .i64 (r13.length : Int)))), (46, .d (.lit (.int .i64 v19))), (52, .d (.lit (.bool (!r36))))] [(4, some (.box [.d (.lit (.int .i64 a0.Kind)), .d (.lit (.string a0.Name)), .d (.lit (.int .i64 a0.Index)), .d (.lit (.int .i64 a0.Value.Kind)), .d (.lit (.int .i64 a0.Value.Int)), .d (.lit (.string a0.Value.Text)), .d (.sl (a0.Args.map cS27))]))]) Sub.tt ?_
      refine Chain.nil ?_
      replace h := isome h; rcases h with ⟨c37, h⟩ | ⟨c37, h⟩
      ·have c37_ : (!r36) = true := c37
       refine AW.condT (b := (!r36)) rfl c37_ ?_
       refine AW.sub (Sub.bool 52 (b := (!r36)) rfl c37_) ?_
       refine AW.sub (S' := mk 139 [] [(1, .d (.sl (a1.map cS24))), (2, .d (.sl (a2.map cS24))), (3, .d (.sl (a3.map cS24))), (4, .ptr 4 0 0), (44, .d (.sl (r13.map cS24))), (45, .d (.lit (.int .i64 (r13.length : Int)))), (46, .d (.lit (.int .i64 v19))), (52, .d (.lit (.bool true)))] [(4, some (.box [.d (.lit (.int .i64 a0.Kind)), .d (.lit (.string a0.Name)), .d (.lit (.int .i64 a0.Index)), .d (.lit (.int .i64 a0.Value.Kind)), .d (.lit (.int .i64 a0.Value.Int)), .d (.lit (.string a0.Value.Text)), .d (.sl (a0.Args.map cS27))]))]) (by simp; exact Sub.table (by simp) (by simp)) ?_
       refine AW.seqR ?_
       refine Chain.runK [] 1 fun K hK => ?_; simp; refine hK _ _ ?_; clear hK K
       refine Chain.sub (S' := mk 139 [] [(8, .d (.lit (.bool true)))] []) Sub.tt ?_
       refine Chain.nil ?_
       refine AW.ret ?_
       cases h
       refine blockQ.ret ?_
       refine thenQ_pass (by simp) ?_
       refine PostI.out (by simp) ?_
       rintro rfl
       refine blockQ.ret ?_
       refine PostJ.out (by simp) ?_
       rintro rfl
       refine thenQ_pass (by simp) ?_
       exact FinC.ret (by simp) (by simp)
      ·have c37_ : (!r36) = false := Bool.eq_false_iff.2 c37
       refine AW.condF (b := (!r36)) rfl c37_ ?_
       refine AW.sub (Sub.bool 52 (b := (!r36)) rfl c37_) ?_
       refine AW.sub (S' := mk 139 [] [(1, .d (.sl (a1.map cS24))), (2, .d (.sl (a2.map cS24))), (3, .d (.sl (a3.map cS24))), (4, .ptr 4 0 0), (44, .d (.sl (r13.map cS24))), (45, .d (.lit (.int .i64 (r13.length : Int)))), (46, .d (.lit (.int .i64 v19))), (52, .d (.lit (.bool false)))] [(4, some (.box [.d (.lit (.int .i64 a0.Kind)), .d (.lit (.string a0.Name)), .d (.lit (.int .i64 a0.Index)), .d (.lit (.int .i64 a0.Value.Kind)), .d (.lit (.int .i64 a0.Value.Int)), .d (.lit (.string a0.Value.Text)), .d (.sl (a0.Args.map cS27))]))]) (by simp; exact Sub.table (by simp) (by simp)) ?_
       refine AW.skip ?_
       refine blockQ.normal ?_
       refine thenQ_normal ?_
       refine AW.region ?_
       replace h := bsome h; obtain ⟨v38, hv38, h⟩ := h
       have hv38 := chkI_some hv38
       refine Chain.runK [] 2 fun K hK => ?_; simp [hv38]; refine hK _ _ ?_; clear hK K
       refine Chain.sub (S' := mk 139 [] [(1, .d (.sl (a1.map cS24))), (2, .d (.sl (a2.map cS24))), (3, .d (.sl (a3.map cS24))), (4, .ptr 4 0 0), (44, .d (.sl (r13.map cS24))), (45, .d (.lit (.int .i64 (r13.length : Int)))), (46, .d (.lit (.int .i64 v38)))] [(4, some (.box [.d (.lit (.int .i64 a0.Kind)), .d (.lit (.string a0.Name)), .d (.lit (.int .i64 a0.Index)), .d (.lit (.int .i64 a0.Value.Kind)), .d (.lit (.int .i64 a0.Value.Int)), .d (.lit (.string a0.Value.Text)), .d (.sl (a0.Args.map cS27))]))]) Sub.tt ?_
       refine Chain.nil ?_
       cases h
       refine PostI.next ?_
       exact Sub.tt
     ·have c33_ : decide (v19 < (r13.length : Int)) = false := decide_eq_false c33
      refine AW.condF (b := decide (v19 < (r13.length : Int))) rfl c33_ ?_
      refine AW.sub (Sub.bool 47 (b := decide (v19 < (r13.length : Int))) rfl c33_) ?_
      refine AW.sub (S' := mk 139 [] [(1, .d (.sl (a1.map cS24))), (2, .d (.sl (a2.map cS24))), (3, .d (.sl (a3.map cS24))), (4, .ptr 4 0 0), (44, .d (.sl (r13.map cS24))), (45, .d (.lit (.int .i64 (r13.length : Int)))), (46, .d (.lit (.int .i64 v19))), (47, .d (.lit (.bool false)))] [(4, some (.box [.d (.lit (.int .i64 a0.Kind)), .d (.lit (.string a0.Name)), .d (.lit (.int .i64 a0.Index)), .d (.lit (.int .i64 a0.Value.Kind)), .d (.lit (.int .i64 a0.Value.Int)), .d (.lit (.string a0.Value.Text)), .d (.sl (a0.Args.map cS27))]))]) (by simp; exact Sub.table (by simp) (by simp)) ?_
      refine AW.exit ?_
      cases h
      refine thenQ_pass (by simp) ?_
      refine PostI.out (by simp) ?_
      rintro rfl
      refine blockQ.hit ?_
      refine PostJ.next ?_
      exact Sub.tt
    ·rintro ⟨⟩ h
     refine thenQ_normal ?_
     refine AW.seqR ?_
     refine Chain.runK [] 1 fun K hK => ?_; simp; refine hK _ _ ?_; clear hK K
     refine Chain.sub (S' := mk 139 [] [(1, .d (.sl (a1.map cS24))), (2, .d (.sl (a2.map cS24))), (3, .d (.sl (a3.map cS24))), (4, .ptr 4 0 0), (54, .d (.sl (a1.map cS24)))] [(4, some (.box [.d (.lit (.int .i64 a0.Kind)), .d (.lit (.string a0.Name)), .d (.lit (.int .i64 a0.Index)), .d (.lit (.int .i64 a0.Value.Kind)), .d (.lit (.int .i64 a0.Value.Int)), .d (.lit (.string a0.Value.Text)), .d (.sl (a0.Args.map cS27))]))]) Sub.tt ?_
     replace h := bsome h; obtain ⟨r39, hr39, h⟩ := h
     refine Chain.callO (d := 55) (p11 N a1 r39 hr39) (by simp) rfl rfl (by simp <;> rfl) (by simp <;> rfl) ent11 (by simp) ⟨by simp, by simp⟩ ?_
     refine Chain.sub (S' := mk 139 [] [(1, .d (.sl (a1.map cS24))), (2, .d (.sl (a2.map cS24))), (3, .d (.sl (a3.map cS24))), (4, .ptr 4 0 0), (54, .d (.sl (a1.map cS24))), (55, .ref 55 0 r39.length)] [(4, some (.box [.d (.lit (.int .i64 a0.Kind)), .d (.lit (.string a0.Name)), .d (.lit (.int .i64 a0.Index)), .d (.lit (.int .i64 a0.Value.Kind)), .d (.lit (.int .i64 a0.Value.Int)), .d (.lit (.string a0.Value.Text)), .d (.sl (a0.Args.map cS27))])), (55, some (.arr 46 3 (r39.map cS46)))]) (by simp; exact Sub.table (by simp) (by simp)) ?_
     refine Chain.runK [] 6 fun K hK => ?_; simp; refine hK _ _ ?_; clear hK K
     refine Chain.sub (S' := mk 139 [] [(1, .d (.sl (a1.map cS24))), (2, .d (.sl (a2.map cS24))), (3, .d (.sl (a3.map cS24))), (4, .ptr 4 0 0), (11, .ptr 11 0 0)] [(4, some (.box [.d (.lit (.int .i64 a0.Kind)), .d (.lit (.string a0.Name)), .d (.lit (.int .i64 a0.Index)), .d (.lit (.int .i64 a0.Value.Kind)), .d (.lit (.int .i64 a0.Value.Int)), .d (.lit (.string a0.Value.Text)), .d (.sl (a0.Args.map cS27))])), (11, some (.box [.ref 55 0 r39.length, .d (.sl (a1.map cS24)), .d (.sl (a3.map cS24)), .d (.lit (.slice none 0 0)), .d (.sl (a2.map cS24))])), (55, some (.arr 46 3 (r39.map cS46)))]) Sub.tt ?_
     refine Chain.nil ?_
     refine AW.seqR ?_
     refine Chain.mmake .string (by simp) rfl rfl (by simp) ?_
     refine Chain.sub (S' := mk 139 [] [(1, .d (.sl (a1.map cS24))), (2, .d (.sl (a2.map cS24))), (3, .d (.sl (a3.map cS24))), (4, .ptr 4 0 0), (11, .ptr 11 0 0), (60, .mref 60)] [(4, some (.box [.d (.lit (.int .i64 a0.Kind)), .d (.lit (.string a0.Name)), .d (.lit (.int .i64 a0.Index)), .d (.lit (.int .i64 a0.Value.Kind)), .d (.lit (.int .i64 a0.Value.Int)), .d (.lit (.string a0.Value.Text)), .d (.sl (a0.Args.map cS27))])), (11, some (.box [.ref 55 0 r39.length, .d (.sl (a1.map cS24)), .d (.sl (a3.map cS24)), .d (.lit (.slice none 0 0)), .d (.sl (a2.map cS24))])), (55, some (.arr 46 3 (r39.map cS46))), (60, some (.mp .string (encM MKey.sk (vA cS24) ([] : List (ByteArray × S24)))))]) (by simp; exact Sub.table (by simp) (by simp [encM_nil])) ?_
     refine Chain.mmake .string (by simp) rfl rfl (by simp) ?_
     refine Chain.sub (S' := mk 139 [] [(1, .d (.sl (a1.map cS24))), (2, .d (.sl (a2.map cS24))), (3, .d (.sl (a3.map cS24))), (4, .ptr 4 0 0), (11, .ptr 11 0 0), (60, .mref 60), (61, .mref 61)] [(4, some (.box [.d (.lit (.int .i64 a0.Kind)), .d (.lit (.string a0.Name)), .d (.lit (.int .i64 a0.Index)), .d (.lit (.int .i64 a0.Value.Kind)), .d (.lit (.int .i64 a0.Value.Int)), .d (.lit (.string a0.Value.Text)), .d (.sl (a0.Args.map cS27))])), (11, some (.box [.ref 55 0 r39.length, .d (.sl (a1.map cS24)), .d (.sl (a3.map cS24)), .d (.lit (.slice none 0 0)), .d (.sl (a2.map cS24))])), (55, some (.arr 46 3 (r39.map cS46))), (60, some (.mp .string (encM MKey.sk (vA cS24) ([] : List (ByteArray × S24))))), (61, some (.mp .string (encM MKey.sk (vA cS24) ([] : List (ByteArray × S24)))))]) (by simp; exact Sub.table (by simp) (by simp [encM_nil])) ?_
     refine Chain.runK [] 4 fun K hK => ?_; simp; refine hK _ _ ?_; clear hK K
     refine Chain.sub (S' := mk 139 [] [(1, .d (.sl (a1.map cS24))), (2, .d (.sl (a2.map cS24))), (4, .ptr 4 0 0), (11, .ptr 11 0 0), (12, .ptr 12 0 0)] [(4, some (.box [.d (.lit (.int .i64 a0.Kind)), .d (.lit (.string a0.Name)), .d (.lit (.int .i64 a0.Index)), .d (.lit (.int .i64 a0.Value.Kind)), .d (.lit (.int .i64 a0.Value.Int)), .d (.lit (.string a0.Value.Text)), .d (.sl (a0.Args.map cS27))])), (11, some (.box [.ref 55 0 r39.length, .d (.sl (a1.map cS24)), .d (.sl (a3.map cS24)), .d (.lit (.slice none 0 0)), .d (.sl (a2.map cS24))])), (12, some (.box [.mref 60, .mref 61, .d (.sl (a3.map cS24))])), (55, some (.arr 46 3 (r39.map cS46))), (60, some (.mp .string (encM MKey.sk (vA cS24) ([] : List (ByteArray × S24))))), (61, some (.mp .string (encM MKey.sk (vA cS24) ([] : List (ByteArray × S24)))))]) Sub.tt ?_
     refine Chain.nil ?_
     refine AW.seqR ?_
     refine Chain.runK [] 1 fun K hK => ?_; simp; refine hK _ _ ?_; clear hK K
     refine Chain.sub (S' := mk 139 [] [(1, .d (.sl (a1.map cS24))), (2, .d (.sl (a2.map cS24))), (4, .ptr 4 0 0), (11, .ptr 11 0 0), (12, .ptr 12 0 0), (64, .d (.sl (a2.map cS24)))] [(4, some (.box [.d (.lit (.int .i64 a0.Kind)), .d (.lit (.string a0.Name)), .d (.lit (.int .i64 a0.Index)), .d (.lit (.int .i64 a0.Value.Kind)), .d (.lit (.int .i64 a0.Value.Int)), .d (.lit (.string a0.Value.Text)), .d (.sl (a0.Args.map cS27))])), (11, some (.box [.ref 55 0 r39.length, .d (.sl (a1.map cS24)), .d (.sl (a3.map cS24)), .d (.lit (.slice none 0 0)), .d (.sl (a2.map cS24))])), (12, some (.box [.mref 60, .mref 61, .d (.sl (a3.map cS24))])), (55, some (.arr 46 3 (r39.map cS46))), (60, some (.mp .string (encM MKey.sk (vA cS24) ([] : List (ByteArray × S24))))), (61, some (.mp .string (encM MKey.sk (vA cS24) ([] : List (ByteArray × S24)))))]) Sub.tt ?_
     replace h := bsome h; obtain ⟨r40, hr40, h⟩ := h
     refine Chain.callO (d := 65) (p11 N a2 r40 hr40) (by simp) rfl rfl (by simp <;> rfl) (by simp <;> rfl) ent11 (by simp) ⟨by simp, by simp⟩ ?_
     refine Chain.sub (S' := mk 139 [] [(1, .d (.sl (a1.map cS24))), (2, .d (.sl (a2.map cS24))), (4, .ptr 4 0 0), (11, .ptr 11 0 0), (12, .ptr 12 0 0), (64, .d (.sl (a2.map cS24))), (65, .ref 65 0 r40.length)] [(4, some (.box [.d (.lit (.int .i64 a0.Kind)), .d (.lit (.string a0.Name)), .d (.lit (.int .i64 a0.Index)), .d (.lit (.int .i64 a0.Value.Kind)), .d (.lit (.int .i64 a0.Value.Int)), .d (.lit (.string a0.Value.Text)), .d (.sl (a0.Args.map cS27))])), (11, some (.box [.ref 55 0 r39.length, .d (.sl (a1.map cS24)), .d (.sl (a3.map cS24)), .d (.lit (.slice none 0 0)), .d (.sl (a2.map cS24))])), (12, some (.box [.mref 60, .mref 61, .d (.sl (a3.map cS24))])), (55, some (.arr 46 3 (r39.map cS46))), (60, some (.mp .string (encM MKey.sk (vA cS24) ([] : List (ByteArray × S24))))), (61, some (.mp .string (encM MKey.sk (vA cS24) ([] : List (ByteArray × S24))))), (65, some (.arr 46 3 (r40.map cS46)))]) (by simp; exact Sub.table (by simp) (by simp)) ?_
     refine Chain.runK [] 1 fun K hK => ?_; simp; refine hK _ _ ?_; clear hK K
     refine Chain.sub (S' := mk 139 [] [(1, .d (.sl (a1.map cS24))), (2, .d (.sl (a2.map cS24))), (4, .ptr 4 0 0), (11, .ptr 11 0 0), (12, .ptr 12 0 0), (13, .ref 65 0 r40.length)] [(4, some (.box [.d (.lit (.int .i64 a0.Kind)), .d (.lit (.string a0.Name)), .d (.lit (.int .i64 a0.Index)), .d (.lit (.int .i64 a0.Value.Kind)), .d (.lit (.int .i64 a0.Value.Int)), .d (.lit (.string a0.Value.Text)), .d (.sl (a0.Args.map cS27))])), (11, some (.box [.ref 55 0 r39.length, .d (.sl (a1.map cS24)), .d (.sl (a3.map cS24)), .d (.lit (.slice none 0 0)), .d (.sl (a2.map cS24))])), (12, some (.box [.mref 60, .mref 61, .d (.sl (a3.map cS24))])), (55, some (.arr 46 3 (r39.map cS46))), (60, some (.mp .string (encM MKey.sk (vA cS24) ([] : List (ByteArray × S24))))), (61, some (.mp .string (encM MKey.sk (vA cS24) ([] : List (ByteArray × S24))))), (65, some (.arr 46 3 (r40.map cS46)))]) Sub.tt ?_
     refine Chain.nil ?_
     refine AW.seq ?_
     refine AW.seqR ?_
     refine Chain.runK [] 3 fun K hK => ?_; simp; refine hK _ _ ?_; clear hK K
     refine Chain.sub (S' := mk 139 [] [(1, .d (.sl (a1.map cS24))), (2, .d (.sl (a2.map cS24))), (4, .ptr 4 0 0), (11, .ptr 11 0 0), (12, .ptr 12 0 0), (13, .ref 65 0 r40.length), (67, .d (.lit (.int .i64 (r40.length : Int)))), (68, .d (.lit (.int .i64 0)))] [(4, some (.box [.d (.lit (.int .i64 a0.Kind)), .d (.lit (.string a0.Name)), .d (.lit (.int .i64 a0.Index)), .d (.lit (.int .i64 a0.Value.Kind)), .d (.lit (.int .i64 a0.Value.Int)), .d (.lit (.string a0.Value.Text)), .d (.sl (a0.Args.map cS27))])), (11, some (.box [.ref 55 0 r39.length, .d (.sl (a1.map cS24)), .d (.sl (a3.map cS24)), .d (.lit (.slice none 0 0)), .d (.sl (a2.map cS24))])), (12, some (.box [.mref 60, .mref 61, .d (.sl (a3.map cS24))])), (55, some (.arr 46 3 (r39.map cS46))), (60, some (.mp .string (encM MKey.sk (vA cS24) ([] : List (ByteArray × S24))))), (61, some (.mp .string (encM MKey.sk (vA cS24) ([] : List (ByteArray × S24))))), (65, some (.arr 46 3 (r40.map cS46)))]) Sub.tt ?_
     refine Chain.nil ?_
     refine AW.lastN (fun ((l81, m82, l83) : ((List ByteArray) × (List (ByteArray × S24)) × (List S46))) => mk 139 [] [(1, .d (.sl (a1.map cS24))), (4, .ptr 4 0 0), (11, .ptr 11 0 0), (12, .ptr 12 0 0), (13, .ref 65 0 l83.length)] [(4, some (.box [.d (.lit (.int .i64 a0.Kind)), .d (.lit (.string a0.Name)), .d (.lit (.int .i64 a0.Index)), .d (.lit (.int .i64 a0.Value.Kind)), .d (.lit (.int .i64 a0.Value.Int)), .d (.lit (.string a0.Value.Text)), .d (.sl (a0.Args.map cS27))])), (11, some (.box [.ref 55 0 r39.length, .d (.sl (a1.map cS24)), .d (.sl (a3.map cS24)), .ref 90 0 l81.length, .d (.sl (a2.map cS24))])), (12, some (.box [.mref 60, .mref 61, .d (.sl (a3.map cS24))])), (55, some (.arr 46 3 (r39.map cS46))), (60, some (.mp .string (encM MKey.sk (vA cS24) ([] : List (ByteArray × S24))))), (61, some (.mp .string (encM MKey.sk (vA cS24) m82))), (65, some (.arr 46 3 (l83.map cS46))), (90, some (.arr 9 1 (l81.map cS)))]) h ?_ ?_ <;> clear h
     ·intro o h
      refine AW.block ?_
      refine AW.iter (fun ((l51, m52, l53, v54) : ((List ByteArray) × (List (ByteArray × S24)) × (List S46) × Int)) => mk 139 [] [(1, .d (.sl (a1.map cS24))), (2, .d (.sl (a2.map cS24))), (4, .ptr 4 0 0), (11, .ptr 11 0 0), (12, .ptr 12 0 0), (13, .ref 65 0 l53.length), (67, .d (.lit (.int .i64 (r40.length : Int)))), (68, .d (.lit (.int .i64 v54)))] [(4, some (.box [.d (.lit (.int .i64 a0.Kind)), .d (.lit (.string a0.Name)), .d (.lit (.int .i64 a0.Index)), .d (.lit (.int .i64 a0.Value.Kind)), .d (.lit (.int .i64 a0.Value.Int)), .d (.lit (.string a0.Value.Text)), .d (.sl (a0.Args.map cS27))])), (11, some (.box [.ref 55 0 r39.length, .d (.sl (a1.map cS24)), .d (.sl (a3.map cS24)), .ref 90 0 l51.length, .d (.sl (a2.map cS24))])), (12, some (.box [.mref 60, .mref 61, .d (.sl (a3.map cS24))])), (55, some (.arr 46 3 (r39.map cS46))), (60, some (.mp .string (encM MKey.sk (vA cS24) ([] : List (ByteArray × S24))))), (61, some (.mp .string (encM MKey.sk (vA cS24) m52))), (65, some (.arr 46 3 (l53.map cS46))), (90, some (.arr 9 1 (l51.map cS)))]) h (Sub.trans (Sub.nilOwnBox (bid := 11) (j := 3) (id := 90) (T := 9) (n := 1) rfl rfl (by decide) rfl (by decide)) (by simp; exact Sub.table (by simp) (by simp))) ?_
      clear h
      rintro ⟨l51, m52, l53, v54⟩ x h
      dsimp only at h ⊢
      refine AW.seqR ?_
      refine Chain.runK [] 1 fun K hK => ?_; simp; refine hK _ _ ?_; clear hK K
      refine Chain.sub (S' := mk 139 [] [(1, .d (.sl (a1.map cS24))), (2, .d (.sl (a2.map cS24))), (4, .ptr 4 0 0), (11, .ptr 11 0 0), (12, .ptr 12 0 0), (13, .ref 65 0 l53.length), (67, .d (.lit (.int .i64 (r40.length : Int)))), (68, .d (.lit (.int .i64 v54))), (69, .d (.lit (.bool (decide (v54 < (r40.length : Int))))))] [(4, some (.box [.d (.lit (.int .i64 a0.Kind)), .d (.lit (.string a0.Name)), .d (.lit (.int .i64 a0.Index)), .d (.lit (.int .i64 a0.Value.Kind)), .d (.lit (.int .i64 a0.Value.Int)), .d (.lit (.string a0.Value.Text)), .d (.sl (a0.Args.map cS27))])), (11, some (.box [.ref 55 0 r39.length, .d (.sl (a1.map cS24)), .d (.sl (a3.map cS24)), .ref 90 0 l51.length, .d (.sl (a2.map cS24))])), (12, some (.box [.mref 60, .mref 61, .d (.sl (a3.map cS24))])), (55, some (.arr 46 3 (r39.map cS46))), (60, some (.mp .string (encM MKey.sk (vA cS24) ([] : List (ByteArray × S24))))), (61, some (.mp .string (encM MKey.sk (vA cS24) m52))), (65, some (.arr 46 3 (l53.map cS46))), (90, some (.arr 9 1 (l51.map cS)))]) Sub.tt ?_
      refine Chain.nil ?_
      refine AW.seq ?_
      replace h := isome h; rcases h with ⟨c84, h⟩ | ⟨c84, h⟩
      ·have c84_ : decide (v54 < (r40.length : Int)) = true := decide_eq_true c84
       refine AW.condT (b := decide (v54 < (r40.length : Int))) rfl c84_ ?_
       refine AW.sub (Sub.bool 69 (b := decide (v54 < (r40.length : Int))) rfl c84_) ?_
       refine AW.sub (S' := mk 139 [] [(1, .d (.sl (a1.map cS24))), (2, .d (.sl (a2.map cS24))), (4, .ptr 4 0 0), (11, .ptr 11 0 0), (12, .ptr 12 0 0), (13, .ref 65 0 l53.length), (67, .d (.lit (.int .i64 (r40.length : Int)))), (68, .d (.lit (.int .i64 v54))), (69, .d (.lit (.bool true)))] [(4, some (.box [.d (.lit (.int .i64 a0.Kind)), .d (.lit (.string a0.Name)), .d (.lit (.int .i64 a0.Index)), .d (.lit (.int .i64 a0.Value.Kind)), .d (.lit (.int .i64 a0.Value.Int)), .d (.lit (.string a0.Value.Text)), .d (.sl (a0.Args.map cS27))])), (11, some (.box [.ref 55 0 r39.length, .d (.sl (a1.map cS24)), .d (.sl (a3.map cS24)), .ref 90 0 l51.length, .d (.sl (a2.map cS24))])), (12, some (.box [.mref 60, .mref 61, .d (.sl (a3.map cS24))])), (55, some (.arr 46 3 (r39.map cS46))), (60, some (.mp .string (encM MKey.sk (vA cS24) ([] : List (ByteArray × S24))))), (61, some (.mp .string (encM MKey.sk (vA cS24) m52))), (65, some (.arr 46 3 (l53.map cS46))), (90, some (.arr 9 1 (l51.map cS)))]) (by simp; exact Sub.table (by simp) (by simp)) ?_
       refine AW.skip ?_
       refine thenQ_normal ?_
       refine AW.seq ?_
       refine AW.block ?_
       refine AW.seqR ?_
       refine Chain.runK [] 2 fun K hK => ?_; simp; refine hK _ _ ?_; clear hK K
       refine Chain.sub (S' := mk 139 [] [(1, .d (.sl (a1.map cS24))), (2, .d (.sl (a2.map cS24))), (4, .ptr 4 0 0), (11, .ptr 11 0 0), (12, .ptr 12 0 0), (13, .ref 65 0 l53.length), (14, .d (.lit (.int .i64 v54))), (67, .d (.lit (.int .i64 (r40.length : Int)))), (68, .d (.lit (.int .i64 v54)))] [(4, some (.box [.d (.lit (.int .i64 a0.Kind)), .d (.lit (.string a0.Name)), .d (.lit (.int .i64 a0.Index)), .d (.lit (.int .i64 a0.Value.Kind)), .d (.lit (.int .i64 a0.Value.Int)), .d (.lit (.string a0.Value.Text)), .d (.sl (a0.Args.map cS27))])), (11, some (.box [.ref 55 0 r39.length, .d (.sl (a1.map cS24)), .d (.sl (a3.map cS24)), .ref 90 0 l51.length, .d (.sl (a2.map cS24))])), (12, some (.box [.mref 60, .mref 61, .d (.sl (a3.map cS24))])), (55, some (.arr 46 3 (r39.map cS46))), (60, some (.mp .string (encM MKey.sk (vA cS24) ([] : List (ByteArray × S24))))), (61, some (.mp .string (encM MKey.sk (vA cS24) m52))), (65, some (.arr 46 3 (l53.map cS46))), (90, some (.arr 9 1 (l51.map cS)))]) Sub.tt ?_
       refine Chain.nil ?_
       refine AW.seqR ?_
       replace h := bsome h; obtain ⟨x85, hx85, h⟩ := h
       obtain ⟨k86, hx85k, hx85, hx85a, hx85b⟩ := idx_some hx85
       replace h := bsome h; obtain ⟨n87, gn87, h⟩ := h
       obtain ⟨hn87a, hn87⟩ := natI_some gn87
       have hn87b : (1 : Int) ≤ ((x85.Name.size : Nat) : Int) := by omega
       replace hn87 : 1 ≤ x85.Name.size := by omega
       clear gn87 hn87a
       replace h := lsome h; obtain ⟨v88, hv88, h⟩ := h
       replace h := bsome h; obtain ⟨v89, gv89, h⟩ := h
       obtain ⟨hv89a, hv89⟩ := catB_some gv89
       replace h := lsome h; obtain ⟨l90, gl90, h⟩ := h
       obtain ⟨hl90, hl90n⟩ := setI_some cS46 gl90 hx85k
       replace hl90 : (l53.map cS46).set k86 [.lit (.string v89), .lit (.int .i64 x85.Kind), .lit (.bool x85.Nullable)] = l90.map cS46 := hl90
       clear gl90
       refine Chain.runK [] 12 fun K hK => ?_; simp [hx85, hx85k, hx85a, hx85b, hn87b, hv88, hv89, hv89a, hl90]; refine hK _ _ ?_; clear hK K
       refine Chain.sub (S' := mk 139 [] [(1, .d (.sl (a1.map cS24))), (2, .d (.sl (a2.map cS24))), (4, .ptr 4 0 0), (11, .ptr 11 0 0), (12, .ptr 12 0 0), (13, .ref 65 0 l90.length), (14, .d (.lit (.int .i64 v54))), (67, .d (.lit (.int .i64 (r40.length : Int)))), (68, .d (.lit (.int .i64 v54)))] [(4, some (.box [.d (.lit (.int .i64 a0.Kind)), .d (.lit (.string a0.Name)), .d (.lit (.int .i64 a0.Index)), .d (.lit (.int .i64 a0.Value.Kind)), .d (.lit (.int .i64 a0.Value.Int)), .d (.lit (.string a0.Value.Text)), .d (.sl (a0.Args.map cS27))])), (11, some (.box [.ref 55 0 r39.length, .d (.sl (a1.map cS24)), .d (.sl (a3.map cS24)), .ref 90 0 l51.length, .d (.sl (a2.map cS24))])), (12, some (.box [.mref 60, .mref 61, .d (.sl (a3.map cS24))])), (55, some (.arr 46 3 (r39.map cS46))), (60, some (.mp .string (encM MKey.sk (vA cS24) ([] : List (ByteArray × S24))))), (61, some (.mp .string (encM MKey.sk (vA cS24) m52))), (65, some (.arr 46 3 (l90.map cS46))), (90, some (.arr 9 1 (l51.map cS)))]) (Sub.table (by simp [hl90n]) (by simp)) ?_
       refine Chain.nil ?_
       replace h := bsome h; obtain ⟨x91, hx91, h⟩ := h
       obtain ⟨hx91, hx91a, hx91b⟩ := idx_some2 hx91 hx85k
       replace h := bsome h; obtain ⟨l92, hl92, h⟩ := h
       obtain ⟨hl92a, hl92⟩ := appL_some hl92
       subst hl92
       try simp only [List.length_cons, List.length_nil, Nat.zero_add] at hl92a
       refine AW.seqAnyS [[], [0], [], [], [2, 3], [2, 3, 4], [2, 3, 4, 5], [2, 3, 4, 5, 6], [0, 1, 2, 3, 4, 5, 6, 7], [0, 1, 2, 3, 4, 5, 6, 7, 8], [0, 1, 2, 3, 4, 5, 6, 7, 8, 9]] (fun (b : Nat → Bool) => mk 139 [] [(1, .d (.sl (a1.map cS24))), (2, .d (.sl (a2.map cS24))), (4, .ptr 4 0 0), (11, .ptr 11 0 0), (12, .ptr 12 0 0), (13, .ref 65 0 l90.length), (14, .d (.lit (.int .i64 v54))), (67, .d (.lit (.int .i64 (r40.length : Int)))), (68, .d (.lit (.int .i64 v54))), (82, (if b 0 then .ptr 11 0 3 else .junk)), (83, (if b 8 then .junk else (if b 1 then .ref 90 0 l51.length else .junk))), (84, (if b 2 then .ref 65 0 l90.length else .junk)), (85, (if b 3 then .d (.lit (.int .i64 v54)) else .junk)), (86, (if b 4 then .ptr 65 k86 0 else .junk)), (87, (if b 5 then .ptr 65 k86 0 else .junk)), (88, (if b 6 then .d (.lit (.string x91.Name)) else .junk)), (89, (if b 7 then .d (.sl ([x91.Name].map cS)) else .junk)), (90, (if b 8 then .ref 90 0 ((l51 ++ [x91.Name]).length) else .junk)), (91, (if b 9 then .ptr 11 0 3 else .junk))] [(4, some (.box [.d (.lit (.int .i64 a0.Kind)), .d (.lit (.string a0.Name)), .d (.lit (.int .i64 a0.Index)), .d (.lit (.int .i64 a0.Value.Kind)), .d (.lit (.int .i64 a0.Value.Int)), .d (.lit (.string a0.Value.Text)), .d (.sl (a0.Args.map cS27))])), (11, (if b 10 then some (.box [.ref 55 0 r39.length, .d (.sl (a1.map cS24)), .d (.sl (a3.map cS24)), .ref 90 0 ((l51 ++ [x91.Name]).length), .d (.sl (a2.map cS24))]) else (if b 8 then some (.box [.ref 55 0 r39.length, .d (.sl (a1.map cS24)), .d (.sl (a3.map cS24)), .hole, .d (.sl (a2.map cS24))]) else some (.box [.ref 55 0 r39.length, .d (.sl (a1.map cS24)), .d (.sl (a3.map cS24)), .ref 90 0 l51.length, .d (.sl (a2.map cS24))])))), (12, some (.box [.mref 60, .mref 61, .d (.sl (a3.map cS24))])), (55, some (.arr 46 3 (r39.map cS46))), (60, some (.mp .string (encM MKey.sk (vA cS24) ([] : List (ByteArray × S24))))), (61, some (.mp .string (encM MKey.sk (vA cS24) m52))), (65, some (.arr 46 3 (l90.map cS46))), (90, (if b 8 then some (.arr 9 1 ((l51 ++ [x91.Name]).map cS)) else some (.arr 9 1 (l51.map cS))))]) (mk 139 [] [(1, .d (.sl (a1.map cS24))), (2, .d (.sl (a2.map cS24))), (4, .ptr 4 0 0), (11, .ptr 11 0 0), (12, .ptr 12 0 0), (13, .ref 65 0 l90.length), (14, .d (.lit (.int .i64 v54))), (67, .d (.lit (.int .i64 (r40.length : Int)))), (68, .d (.lit (.int .i64 v54)))] [(4, some (.box [.d (.lit (.int .i64 a0.Kind)), .d (.lit (.string a0.Name)), .d (.lit (.int .i64 a0.Index)), .d (.lit (.int .i64 a0.Value.Kind)), .d (.lit (.int .i64 a0.Value.Int)), .d (.lit (.string a0.Value.Text)), .d (.sl (a0.Args.map cS27))])), (11, some (.box [.ref 55 0 r39.length, .d (.sl (a1.map cS24)), .d (.sl (a3.map cS24)), .ref 90 0 ((l51 ++ [x91.Name]).length), .d (.sl (a2.map cS24))])), (12, some (.box [.mref 60, .mref 61, .d (.sl (a3.map cS24))])), (55, some (.arr 46 3 (r39.map cS46))), (60, some (.mp .string (encM MKey.sk (vA cS24) ([] : List (ByteArray × S24))))), (61, some (.mp .string (encM MKey.sk (vA cS24) m52))), (65, some (.arr 46 3 (l90.map cS46))), (90, some (.arr 9 1 ((l51 ++ [x91.Name]).map cS)))]) (by kernel_rfl) (by kernel_rfl) Sub.tt (Steps.cons ?_ (Steps.cons ?_ (Steps.cons ?_ (Steps.cons ?_ (Steps.cons ?_ (Steps.cons ?_ (Steps.cons ?_ (Steps.cons ?_ (Steps.cons ?_ (Steps.cons ?_ (Steps.cons ?_ (Steps.nil)))))))))))) ?_ ?_
       ·intro b h0 ha hd
        have f1 : b 1 = false := hd 1 (by decide)
        have f8 : b 8 = false := hd 8 (by decide)
        have f9 : b 9 = false := hd 9 (by decide)
        have f10 : b 10 = false := hd 10 (by decide)
        refine Chain.runK [89] 1 fun K hK => ?_; simp [h0, f1, f8, f9, f10]; refine hK _ _ ?_; clear hK K
        exact Chain.nil (Sub.table (by simp [f1, f8, f9]) (by simp [f8, f10]))
       ·intro b h0 ha hd
        have t0 : b 0 = true := ha 0 (by decide)
        have f8 : b 8 = false := hd 8 (by decide)
        have f9 : b 9 = false := hd 9 (by decide)
        have f10 : b 10 = false := hd 10 (by decide)
        refine Chain.runK [89] 1 fun K hK => ?_; simp [h0, t0, f8, f9, f10]; refine hK _ _ ?_; clear hK K
        exact Chain.nil (Sub.table (by simp [t0, f8, f9]) (by simp [f8, f10]))
       ·intro b h0 ha hd
        have f4 : b 4 = false := hd 4 (by decide)
        have f5 : b 5 = false := hd 5 (by decide)
        have f6 : b 6 = false := hd 6 (by decide)
        have f7 : b 7 = false := hd 7 (by decide)
        have f8 : b 8 = false := hd 8 (by decide)
        have f9 : b 9 = false := hd 9 (by decide)
        have f10 : b 10 = false := hd 10 (by decide)
        refine Chain.runK [89] 1 fun K hK => ?_; simp [h0, f4, f5, f6, f7, f8, f9, f10]; refine hK _ _ ?_; clear hK K
        exact Chain.nil (Sub.table (by simp [f4, f5, f6, f7, f8, f9]) (by simp [f8, f10]))
       ·intro b h0 ha hd
        have f4 : b 4 = false := hd 4 (by decide)
        have f5 : b 5 = false := hd 5 (by decide)
        have f6 : b 6 = false := hd 6 (by decide)
        have f7 : b 7 = false := hd 7 (by decide)
        have f8 : b 8 = false := hd 8 (by decide)
        have f9 : b 9 = false := hd 9 (by decide)
        have f10 : b 10 = false := hd 10 (by decide)
        refine Chain.runK [89] 1 fun K hK => ?_; simp [h0, f4, f5, f6, f7, f8, f9, f10]; refine hK _ _ ?_; clear hK K
        exact Chain.nil (Sub.table (by simp [f4, f5, f6, f7, f8, f9]) (by simp [f8, f10]))
       ·intro b h0 ha hd
        have t2 : b 2 = true := ha 2 (by decide)
        have t3 : b 3 = true := ha 3 (by decide)
        have f5 : b 5 = false := hd 5 (by decide)
        have f6 : b 6 = false := hd 6 (by decide)
        have f7 : b 7 = false := hd 7 (by decide)
        have f8 : b 8 = false := hd 8 (by decide)
        have f9 : b 9 = false := hd 9 (by decide)
        have f10 : b 10 = false := hd 10 (by decide)
        refine Chain.runK [89] 1 fun K hK => ?_; simp [h0, t2, t3, f5, f6, f7, f8, f9, f10, hx85k, hx91a, hx91b]; refine hK _ _ ?_; clear hK K
        exact Chain.nil (Sub.table (by simp [t2, t3, f5, f6, f7, f8, f9]) (by simp [f8, f10]))
       ·intro b h0 ha hd
        have t2 : b 2 = true := ha 2 (by decide)
        have t3 : b 3 = true := ha 3 (by decide)
        have t4 : b 4 = true := ha 4 (by decide)
        have f6 : b 6 = false := hd 6 (by decide)
        have f7 : b 7 = false := hd 7 (by decide)
        have f8 : b 8 = false := hd 8 (by decide)
        have f9 : b 9 = false := hd 9 (by decide)
        have f10 : b 10 = false := hd 10 (by decide)
        refine Chain.runK [89] 1 fun K hK => ?_; simp [h0, t2, t3, t4, f6, f7, f8, f9, f10]; refine hK _ _ ?_; clear hK K
        exact Chain.nil (Sub.table (by simp [t2, t3, t4, f6, f7, f8, f9]) (by simp [f8, f10]))
       ·intro b h0 ha hd
        have t2 : b 2 = true := ha 2 (by decide)
        have t3 : b 3 = true := ha 3 (by decide)
        have t4 : b 4 = true := ha 4 (by decide)
        have t5 : b 5 = true := ha 5 (by decide)
        have f7 : b 7 = false := hd 7 (by decide)
        have f8 : b 8 = false := hd 8 (by decide)
        have f9 : b 9 = false := hd 9 (by decide)
        have f10 : b 10 = false := hd 10 (by decide)
        refine Chain.runK [89] 1 fun K hK => ?_; simp [h0, t2, t3, t4, t5, f7, f8, f9, f10, hx91]; refine hK _ _ ?_; clear hK K
        exact Chain.nil (Sub.table (by simp [t2, t3, t4, t5, f7, f8, f9]) (by simp [f8, f10]))
       ·intro b h0 ha hd
        have t2 : b 2 = true := ha 2 (by decide)
        have t3 : b 3 = true := ha 3 (by decide)
        have t4 : b 4 = true := ha 4 (by decide)
        have t5 : b 5 = true := ha 5 (by decide)
        have t6 : b 6 = true := ha 6 (by decide)
        have f8 : b 8 = false := hd 8 (by decide)
        have f9 : b 9 = false := hd 9 (by decide)
        have f10 : b 10 = false := hd 10 (by decide)
        refine Chain.runK [89] 1 fun K hK => ?_; simp [h0, t2, t3, t4, t5, t6, f8, f9, f10]; refine hK _ _ ?_; clear hK K
        exact Chain.nil (Sub.table (by simp [t2, t3, t4, t5, t6, f8, f9]) (by simp [f8, f10]))
       ·intro b h0 ha hd
        have t0 : b 0 = true := ha 0 (by decide)
        have t1 : b 1 = true := ha 1 (by decide)
        have t2 : b 2 = true := ha 2 (by decide)
        have t3 : b 3 = true := ha 3 (by decide)
        have t4 : b 4 = true := ha 4 (by decide)
        have t5 : b 5 = true := ha 5 (by decide)
        have t6 : b 6 = true := ha 6 (by decide)
        have t7 : b 7 = true := ha 7 (by decide)
        have f9 : b 9 = false := hd 9 (by decide)
        have f10 : b 10 = false := hd 10 (by decide)
        refine Chain.runK [89] 1 fun K hK => ?_; simp [h0, t0, t1, t2, t3, t4, t5, t6, t7, f9, f10, hl92a]; refine hK _ _ ?_; clear hK K
        exact Chain.nil (Sub.table (by simp [t0, t2, t3, t4, t5, t6, t7, f9]) (by simp [f10]))
       ·intro b h0 ha hd
        have t0 : b 0 = true := ha 0 (by decide)
        have t1 : b 1 = true := ha 1 (by decide)
        have t2 : b 2 = true := ha 2 (by decide)
        have t3 : b 3 = true := ha 3 (by decide)
        have t4 : b 4 = true := ha 4 (by decide)
        have t5 : b 5 = true := ha 5 (by decide)
        have t6 : b 6 = true := ha 6 (by decide)
        have t7 : b 7 = true := ha 7 (by decide)
        have t8 : b 8 = true := ha 8 (by decide)
        have f10 : b 10 = false := hd 10 (by decide)
        refine Chain.runK [89] 1 fun K hK => ?_; simp [h0, t0, t2, t3, t4, t5, t6, t7, t8, f10]; refine hK _ _ ?_; clear hK K
        exact Chain.nil (Sub.table (by simp [t0, t2, t3, t4, t5, t6, t7, t8]) (by simp [t8, f10]))
       ·intro b h0 ha hd
        have t0 : b 0 = true := ha 0 (by decide)
        have t1 : b 1 = true := ha 1 (by decide)
        have t2 : b 2 = true := ha 2 (by decide)
        have t3 : b 3 = true := ha 3 (by decide)
        have t4 : b 4 = true := ha 4 (by decide)
        have t5 : b 5 = true := ha 5 (by decide)
        have t6 : b 6 = true := ha 6 (by decide)
        have t7 : b 7 = true := ha 7 (by decide)
        have t8 : b 8 = true := ha 8 (by decide)
        have t9 : b 9 = true := ha 9 (by decide)
        refine Chain.runK [89] 1 fun K hK => ?_; simp [h0, t0, t2, t3, t4, t5, t6, t7, t8, t9]; refine hK _ _ ?_; clear hK K
        exact Chain.nil (Sub.table (by simp [t0, t2, t3, t4, t5, t6, t7, t8, t9]) (by simp [t8]))
       ·intro b hb
        have t0 := hb 0 (by decide)
        have t1 := hb 1 (by decide)
        have t2 := hb 2 (by decide)
        have t3 := hb 3 (by decide)
        have t4 := hb 4 (by decide)
        have t5 := hb 5 (by decide)
        have t6 := hb 6 (by decide)
        have t7 := hb 7 (by decide)
        have t8 := hb 8 (by decide)
        have t9 := hb 9 (by decide)
        have t10 := hb 10 (by decide)
        exact Sub.table (by simp [t0, t2, t3, t4, t5, t6, t7, t8, t9]) (by simp [t8, t10])
       ·skip
        replace h := bsome h; obtain ⟨x93, hx93, h⟩ := h
        obtain ⟨hx93, hx93a, hx93b⟩ := idx_some2 hx93 hx85k
        refine AW.regionT 11 (by kernel_rfl) (by kernel_rfl) fun K hK => ?_; simp [hx91, hx91a, hx91b, hx93, hx85k]; refine hK _ _ ?_; clear hK K
        refine Chain.sub (S' := mk 139 [] [(1, .d (.sl (a1.map cS24))), (2, .d (.sl (a2.map cS24))), (4, .ptr 4 0 0), (11, .ptr 11 0 0), (12, .ptr 12 0 0), (13, .ref 65 0 l90.length), (67, .d (.lit (.int .i64 (r40.length : Int)))), (68, .d (.lit (.int .i64 v54))), (93, .mref 61), (98, .d (.lit (.string x91.Name))), (102, .agg [.d (.lit (.int .i64 x93.Kind)), .d (.lit (.int .i64 x93.Int)), .d (.lit (.string x93.Text))])] [(4, some (.box [.d (.lit (.int .i64 a0.Kind)), .d (.lit (.string a0.Name)), .d (.lit (.int .i64 a0.Index)), .d (.lit (.int .i64 a0.Value.Kind)), .d (.lit (.int .i64 a0.Value.Int)), .d (.lit (.string a0.Value.Text)), .d (.sl (a0.Args.map cS27))])), (11, some (.box [.ref 55 0 r39.length, .d (.sl (a1.map cS24)), .d (.sl (a3.map cS24)), .ref 90 0 ((l51 ++ [x91.Name]).length), .d (.sl (a2.map cS24))])), (12, some (.box [.mref 60, .mref 61, .d (.sl (a3.map cS24))])), (55, some (.arr 46 3 (r39.map cS46))), (60, some (.mp .string (encM MKey.sk (vA cS24) ([] : List (ByteArray × S24))))), (61, some (.mp .string (encM MKey.sk (vA cS24) m52))), (65, some (.arr 46 3 (l90.map cS46))), (90, some (.arr 9 1 ((l51 ++ [x91.Name]).map cS)))]) Sub.tt ?_
        refine Chain.msetE (vf := (vA cS24)) sk_inj m52 x91.Name x93 (by simp) (.inl rfl) ty42 rfl ty9 rfl rfl rfl rfl rfl rfl rfl ?_
        refine Chain.sub (S' := mk 139 [] [(1, .d (.sl (a1.map cS24))), (2, .d (.sl (a2.map cS24))), (4, .ptr 4 0 0), (11, .ptr 11 0 0), (12, .ptr 12 0 0), (13, .ref 65 0 l90.length), (67, .d (.lit (.int .i64 (r40.length : Int)))), (68, .d (.lit (.int .i64 v54))), (93, .mref 61), (98, .d (.lit (.string x91.Name))), (102, .agg [.d (.lit (.int .i64 x93.Kind)), .d (.lit (.int .i64 x93.Int)), .d (.lit (.string x93.Text))])] [(4, some (.box [.d (.lit (.int .i64 a0.Kind)), .d (.lit (.string a0.Name)), .d (.lit (.int .i64 a0.Index)), .d (.lit (.int .i64 a0.Value.Kind)), .d (.lit (.int .i64 a0.Value.Int)), .d (.lit (.string a0.Value.Text)), .d (.sl (a0.Args.map cS27))])), (11, some (.box [.ref 55 0 r39.length, .d (.sl (a1.map cS24)), .d (.sl (a3.map cS24)), .ref 90 0 ((l51 ++ [x91.Name]).length), .d (.sl (a2.map cS24))])), (12, some (.box [.mref 60, .mref 61, .d (.sl (a3.map cS24))])), (55, some (.arr 46 3 (r39.map cS46))), (60, some (.mp .string (encM MKey.sk (vA cS24) ([] : List (ByteArray × S24))))), (61, some (.mp .string (encM MKey.sk (vA cS24) (mput m52 x91.Name x93)))), (65, some (.arr 46 3 (l90.map cS46))), (90, some (.arr 9 1 ((l51 ++ [x91.Name]).map cS)))]) (by simp; exact Sub.table (by simp) (by simp)) ?_
        refine Chain.nil ?_
        refine blockQ.normal ?_
        refine thenQ_normal ?_
        refine AW.region ?_
        replace h := bsome h; obtain ⟨v94, hv94, h⟩ := h
        have hv94 := chkI_some hv94
        refine Chain.runK [] 2 fun K hK => ?_; simp [hv94]; refine hK _ _ ?_; clear hK K
        refine Chain.sub (S' := mk 139 [] [(1, .d (.sl (a1.map cS24))), (2, .d (.sl (a2.map cS24))), (4, .ptr 4 0 0), (11, .ptr 11 0 0), (12, .ptr 12 0 0), (13, .ref 65 0 l90.length), (67, .d (.lit (.int .i64 (r40.length : Int)))), (68, .d (.lit (.int .i64 v94)))] [(4, some (.box [.d (.lit (.int .i64 a0.Kind)), .d (.lit (.string a0.Name)), .d (.lit (.int .i64 a0.Index)), .d (.lit (.int .i64 a0.Value.Kind)), .d (.lit (.int .i64 a0.Value.Int)), .d (.lit (.string a0.Value.Text)), .d (.sl (a0.Args.map cS27))])), (11, some (.box [.ref 55 0 r39.length, .d (.sl (a1.map cS24)), .d (.sl (a3.map cS24)), .ref 90 0 ((l51 ++ [x91.Name]).length), .d (.sl (a2.map cS24))])), (12, some (.box [.mref 60, .mref 61, .d (.sl (a3.map cS24))])), (55, some (.arr 46 3 (r39.map cS46))), (60, some (.mp .string (encM MKey.sk (vA cS24) ([] : List (ByteArray × S24))))), (61, some (.mp .string (encM MKey.sk (vA cS24) (mput m52 x91.Name x93)))), (65, some (.arr 46 3 (l90.map cS46))), (90, some (.arr 9 1 ((l51 ++ [x91.Name]).map cS)))]) Sub.tt ?_
        refine Chain.nil ?_
        cases h
        refine PostI.next ?_
        exact Sub.tt
      ·have c84_ : decide (v54 < (r40.length : Int)) = false := decide_eq_false c84
       refine AW.condF (b := decide (v54 < (r40.length : Int))) rfl c84_ ?_
       refine AW.sub (Sub.bool 69 (b := decide (v54 < (r40.length : Int))) rfl c84_) ?_
       refine AW.sub (S' := mk 139 [] [(1, .d (.sl (a1.map cS24))), (2, .d (.sl (a2.map cS24))), (4, .ptr 4 0 0), (11, .ptr 11 0 0), (12, .ptr 12 0 0), (13, .ref 65 0 l53.length), (67, .d (.lit (.int .i64 (r40.length : Int)))), (68, .d (.lit (.int .i64 v54))), (69, .d (.lit (.bool false)))] [(4, some (.box [.d (.lit (.int .i64 a0.Kind)), .d (.lit (.string a0.Name)), .d (.lit (.int .i64 a0.Index)), .d (.lit (.int .i64 a0.Value.Kind)), .d (.lit (.int .i64 a0.Value.Int)), .d (.lit (.string a0.Value.Text)), .d (.sl (a0.Args.map cS27))])), (11, some (.box [.ref 55 0 r39.length, .d (.sl (a1.map cS24)), .d (.sl (a3.map cS24)), .ref 90 0 l51.length, .d (.sl (a2.map cS24))])), (12, some (.box [.mref 60, .mref 61, .d (.sl (a3.map cS24))])), (55, some (.arr 46 3 (r39.map cS46))), (60, some (.mp .string (encM MKey.sk (vA cS24) ([] : List (ByteArray × S24))))), (61, some (.mp .string (encM MKey.sk (vA cS24) m52))), (65, some (.arr 46 3 (l53.map cS46))), (90, some (.arr 9 1 (l51.map cS)))]) (by simp; exact Sub.table (by simp) (by simp)) ?_
       refine AW.exit ?_
       cases h
       refine thenQ_pass (by simp) ?_
       refine PostI.out (by simp) ?_
       rintro rfl
       refine blockQ.hit ?_
       refine PostN.next ?_
       exact Sub.tt
     ·rintro ⟨l81, m82, l83⟩ h
      dsimp only at h ⊢
      refine thenQ_normal ?_
      refine AW.seq ?_
      refine AW.seqR ?_
      refine Chain.runK [] 4 fun K hK => ?_; simp; refine hK _ _ ?_; clear hK K
      refine Chain.sub (S' := mk 139 [] [(1, .d (.sl (a1.map cS24))), (4, .ptr 4 0 0), (11, .ptr 11 0 0), (12, .ptr 12 0 0), (13, .ref 65 0 l83.length), (105, .ref 55 0 r39.length), (106, .d (.lit (.int .i64 (r39.length : Int)))), (107, .d (.lit (.int .i64 0)))] [(4, some (.box [.d (.lit (.int .i64 a0.Kind)), .d (.lit (.string a0.Name)), .d (.lit (.int .i64 a0.Index)), .d (.lit (.int .i64 a0.Value.Kind)), .d (.lit (.int .i64 a0.Value.Int)), .d (.lit (.string a0.Value.Text)), .d (.sl (a0.Args.map cS27))])), (11, some (.box [.ref 55 0 r39.length, .d (.sl (a1.map cS24)), .d (.sl (a3.map cS24)), .ref 90 0 l81.length, .d (.sl (a2.map cS24))])), (12, some (.box [.mref 60, .mref 61, .d (.sl (a3.map cS24))])), (55, some (.arr 46 3 (r39.map cS46))), (60, some (.mp .string (encM MKey.sk (vA cS24) ([] : List (ByteArray × S24))))), (61, some (.mp .string (encM MKey.sk (vA cS24) m82))), (65, some (.arr 46 3 (l83.map cS46))), (90, some (.arr 9 1 (l81.map cS)))]) Sub.tt ?_
      refine Chain.nil ?_
      refine AW.lastN (fun (m113 : List (ByteArray × S24)) => mk 139 [] [(4, .ptr 4 0 0), (11, .ptr 11 0 0), (12, .ptr 12 0 0), (13, .ref 65 0 l83.length)] [(4, some (.box [.d (.lit (.int .i64 a0.Kind)), .d (.lit (.string a0.Name)), .d (.lit (.int .i64 a0.Index)), .d (.lit (.int .i64 a0.Value.Kind)), .d (.lit (.int .i64 a0.Value.Int)), .d (.lit (.string a0.Value.Text)), .d (.sl (a0.Args.map cS27))])), (11, some (.box [.ref 55 0 r39.length, .d (.sl (a1.map cS24)), .d (.sl (a3.map cS24)), .ref 90 0 l81.length, .d (.sl (a2.map cS24))])), (12, some (.box [.mref 60, .mref 61, .d (.sl (a3.map cS24))])), (55, some (.arr 46 3 (r39.map cS46))), (60, some (.mp .string (encM MKey.sk (vA cS24) m113))), (61, some (.mp .string (encM MKey.sk (vA cS24) m82))), (65, some (.arr 46 3 (l83.map cS46))), (90, some (.arr 9 1 (l81.map cS)))]) h ?_ ?_ <;> clear h
      ·intro o h
       refine AW.block ?_
       refine AW.iter (fun ((m99, v100) : ((List (ByteArray × S24)) × Int)) => mk 139 [] [(1, .d (.sl (a1.map cS24))), (4, .ptr 4 0 0), (11, .ptr 11 0 0), (12, .ptr 12 0 0), (13, .ref 65 0 l83.length), (105, .ref 55 0 r39.length), (106, .d (.lit (.int .i64 (r39.length : Int)))), (107, .d (.lit (.int .i64 v100)))] [(4, some (.box [.d (.lit (.int .i64 a0.Kind)), .d (.lit (.string a0.Name)), .d (.lit (.int .i64 a0.Index)), .d (.lit (.int .i64 a0.Value.Kind)), .d (.lit (.int .i64 a0.Value.Int)), .d (.lit (.string a0.Value.Text)), .d (.sl (a0.Args.map cS27))])), (11, some (.box [.ref 55 0 r39.length, .d (.sl (a1.map cS24)), .d (.sl (a3.map cS24)), .ref 90 0 l81.length, .d (.sl (a2.map cS24))])), (12, some (.box [.mref 60, .mref 61, .d (.sl (a3.map cS24))])), (55, some (.arr 46 3 (r39.map cS46))), (60, some (.mp .string (encM MKey.sk (vA cS24) m99))), (61, some (.mp .string (encM MKey.sk (vA cS24) m82))), (65, some (.arr 46 3 (l83.map cS46))), (90, some (.arr 9 1 (l81.map cS)))]) h Sub.tt ?_
       clear h
       rintro ⟨m99, v100⟩ x h
       dsimp only at h ⊢
       refine AW.seqR ?_
       refine Chain.runK [] 1 fun K hK => ?_; simp; refine hK _ _ ?_; clear hK K
       refine Chain.sub (S' := mk 139 [] [(1, .d (.sl (a1.map cS24))), (4, .ptr 4 0 0), (11, .ptr 11 0 0), (12, .ptr 12 0 0), (13, .ref 65 0 l83.length), (105, .ref 55 0 r39.length), (106, .d (.lit (.int .i64 (r39.length : Int)))), (107, .d (.lit (.int .i64 v100))), (108, .d (.lit (.bool (decide (v100 < (r39.length : Int))))))] [(4, some (.box [.d (.lit (.int .i64 a0.Kind)), .d (.lit (.string a0.Name)), .d (.lit (.int .i64 a0.Index)), .d (.lit (.int .i64 a0.Value.Kind)), .d (.lit (.int .i64 a0.Value.Int)), .d (.lit (.string a0.Value.Text)), .d (.sl (a0.Args.map cS27))])), (11, some (.box [.ref 55 0 r39.length, .d (.sl (a1.map cS24)), .d (.sl (a3.map cS24)), .ref 90 0 l81.length, .d (.sl (a2.map cS24))])), (12, some (.box [.mref 60, .mref 61, .d (.sl (a3.map cS24))])), (55, some (.arr 46 3 (r39.map cS46))), (60, some (.mp .string (encM MKey.sk (vA cS24) m99))), (61, some (.mp .string (encM MKey.sk (vA cS24) m82))), (65, some (.arr 46 3 (l83.map cS46))), (90, some (.arr 9 1 (l81.map cS)))]) Sub.tt ?_
       refine Chain.nil ?_
       refine AW.seq ?_
       replace h := isome h; rcases h with ⟨c114, h⟩ | ⟨c114, h⟩
       ·have c114_ : decide (v100 < (r39.length : Int)) = true := decide_eq_true c114
        refine AW.condT (b := decide (v100 < (r39.length : Int))) rfl c114_ ?_
        refine AW.sub (Sub.bool 108 (b := decide (v100 < (r39.length : Int))) rfl c114_) ?_
        refine AW.sub (S' := mk 139 [] [(1, .d (.sl (a1.map cS24))), (4, .ptr 4 0 0), (11, .ptr 11 0 0), (12, .ptr 12 0 0), (13, .ref 65 0 l83.length), (105, .ref 55 0 r39.length), (106, .d (.lit (.int .i64 (r39.length : Int)))), (107, .d (.lit (.int .i64 v100))), (108, .d (.lit (.bool true)))] [(4, some (.box [.d (.lit (.int .i64 a0.Kind)), .d (.lit (.string a0.Name)), .d (.lit (.int .i64 a0.Index)), .d (.lit (.int .i64 a0.Value.Kind)), .d (.lit (.int .i64 a0.Value.Int)), .d (.lit (.string a0.Value.Text)), .d (.sl (a0.Args.map cS27))])), (11, some (.box [.ref 55 0 r39.length, .d (.sl (a1.map cS24)), .d (.sl (a3.map cS24)), .ref 90 0 l81.length, .d (.sl (a2.map cS24))])), (12, some (.box [.mref 60, .mref 61, .d (.sl (a3.map cS24))])), (55, some (.arr 46 3 (r39.map cS46))), (60, some (.mp .string (encM MKey.sk (vA cS24) m99))), (61, some (.mp .string (encM MKey.sk (vA cS24) m82))), (65, some (.arr 46 3 (l83.map cS46))), (90, some (.arr 9 1 (l81.map cS)))]) (by simp; exact Sub.table (by simp) (by simp)) ?_
        refine AW.skip ?_
        refine thenQ_normal ?_
        refine AW.seq ?_
        refine AW.block ?_
        refine AW.seqR ?_
        replace h := bsome h; obtain ⟨x115, hx115, h⟩ := h
        obtain ⟨k116, hx115k, hx115, hx115a, hx115b⟩ := idx_some hx115
        refine Chain.runK [] 6 fun K hK => ?_; simp [hx115, hx115k, hx115a, hx115b]; refine hK _ _ ?_; clear hK K
        refine Chain.sub (S' := mk 139 [] [(1, .d (.sl (a1.map cS24))), (4, .ptr 4 0 0), (11, .ptr 11 0 0), (12, .ptr 12 0 0), (13, .ref 65 0 l83.length), (15, .d (.lit (.int .i64 v100))), (16, .ptr 16 0 0), (105, .ref 55 0 r39.length), (106, .d (.lit (.int .i64 (r39.length : Int)))), (107, .d (.lit (.int .i64 v100)))] [(4, some (.box [.d (.lit (.int .i64 a0.Kind)), .d (.lit (.string a0.Name)), .d (.lit (.int .i64 a0.Index)), .d (.lit (.int .i64 a0.Value.Kind)), .d (.lit (.int .i64 a0.Value.Int)), .d (.lit (.string a0.Value.Text)), .d (.sl (a0.Args.map cS27))])), (11, some (.box [.ref 55 0 r39.length, .d (.sl (a1.map cS24)), .d (.sl (a3.map cS24)), .ref 90 0 l81.length, .d (.sl (a2.map cS24))])), (12, some (.box [.mref 60, .mref 61, .d (.sl (a3.map cS24))])), (16, some (.box [.d (.lit (.string x115.Name)), .d (.lit (.int .i64 x115.Kind)), .d (.lit (.bool x115.Nullable))])), (55, some (.arr 46 3 (r39.map cS46))), (60, some (.mp .string (encM MKey.sk (vA cS24) m99))), (61, some (.mp .string (encM MKey.sk (vA cS24) m82))), (65, some (.arr 46 3 (l83.map cS46))), (90, some (.arr 9 1 (l81.map cS)))]) Sub.tt ?_
        refine Chain.nil ?_
        replace h := bsome h; obtain ⟨x117, hx117, h⟩ := h
        obtain ⟨hx117, hx117a, hx117b⟩ := idx_some2 hx117 hx115k
        refine AW.regionT 8 (by kernel_rfl) (by kernel_rfl) fun K hK => ?_; simp [hx117, hx115k, hx117a]; refine hK _ _ ?_; clear hK K
        refine Chain.sub (S' := mk 139 [] [(1, .d (.sl (a1.map cS24))), (4, .ptr 4 0 0), (11, .ptr 11 0 0), (12, .ptr 12 0 0), (13, .ref 65 0 l83.length), (105, .ref 55 0 r39.length), (106, .d (.lit (.int .i64 (r39.length : Int)))), (107, .d (.lit (.int .i64 v100))), (113, .mref 60), (115, .d (.lit (.string x115.Name))), (119, .agg [.d (.lit (.int .i64 x117.Kind)), .d (.lit (.int .i64 x117.Int)), .d (.lit (.string x117.Text))])] [(4, some (.box [.d (.lit (.int .i64 a0.Kind)), .d (.lit (.string a0.Name)), .d (.lit (.int .i64 a0.Index)), .d (.lit (.int .i64 a0.Value.Kind)), .d (.lit (.int .i64 a0.Value.Int)), .d (.lit (.string a0.Value.Text)), .d (.sl (a0.Args.map cS27))])), (11, some (.box [.ref 55 0 r39.length, .d (.sl (a1.map cS24)), .d (.sl (a3.map cS24)), .ref 90 0 l81.length, .d (.sl (a2.map cS24))])), (12, some (.box [.mref 60, .mref 61, .d (.sl (a3.map cS24))])), (55, some (.arr 46 3 (r39.map cS46))), (60, some (.mp .string (encM MKey.sk (vA cS24) m99))), (61, some (.mp .string (encM MKey.sk (vA cS24) m82))), (65, some (.arr 46 3 (l83.map cS46))), (90, some (.arr 9 1 (l81.map cS)))]) Sub.tt ?_
        refine Chain.msetE (vf := (vA cS24)) sk_inj m99 x115.Name x117 (by simp) (.inl rfl) ty42 rfl ty9 rfl rfl rfl rfl rfl rfl rfl ?_
        refine Chain.sub (S' := mk 139 [] [(1, .d (.sl (a1.map cS24))), (4, .ptr 4 0 0), (11, .ptr 11 0 0), (12, .ptr 12 0 0), (13, .ref 65 0 l83.length), (105, .ref 55 0 r39.length), (106, .d (.lit (.int .i64 (r39.length : Int)))), (107, .d (.lit (.int .i64 v100))), (113, .mref 60), (115, .d (.lit (.string x115.Name))), (119, .agg [.d (.lit (.int .i64 x117.Kind)), .d (.lit (.int .i64 x117.Int)), .d (.lit (.string x117.Text))])] [(4, some (.box [.d (.lit (.int .i64 a0.Kind)), .d (.lit (.string a0.Name)), .d (.lit (.int .i64 a0.Index)), .d (.lit (.int .i64 a0.Value.Kind)), .d (.lit (.int .i64 a0.Value.Int)), .d (.lit (.string a0.Value.Text)), .d (.sl (a0.Args.map cS27))])), (11, some (.box [.ref 55 0 r39.length, .d (.sl (a1.map cS24)), .d (.sl (a3.map cS24)), .ref 90 0 l81.length, .d (.sl (a2.map cS24))])), (12, some (.box [.mref 60, .mref 61, .d (.sl (a3.map cS24))])), (55, some (.arr 46 3 (r39.map cS46))), (60, some (.mp .string (encM MKey.sk (vA cS24) (mput m99 x115.Name x117)))), (61, some (.mp .string (encM MKey.sk (vA cS24) m82))), (65, some (.arr 46 3 (l83.map cS46))), (90, some (.arr 9 1 (l81.map cS)))]) (by simp; exact Sub.table (by simp) (by simp)) ?_
        refine Chain.nil ?_
        refine blockQ.normal ?_
        refine thenQ_normal ?_
        refine AW.region ?_
        replace h := bsome h; obtain ⟨v118, hv118, h⟩ := h
        have hv118 := chkI_some hv118
        refine Chain.runK [] 2 fun K hK => ?_; simp [hv118]; refine hK _ _ ?_; clear hK K
        refine Chain.sub (S' := mk 139 [] [(1, .d (.sl (a1.map cS24))), (4, .ptr 4 0 0), (11, .ptr 11 0 0), (12, .ptr 12 0 0), (13, .ref 65 0 l83.length), (105, .ref 55 0 r39.length), (106, .d (.lit (.int .i64 (r39.length : Int)))), (107, .d (.lit (.int .i64 v118)))] [(4, some (.box [.d (.lit (.int .i64 a0.Kind)), .d (.lit (.string a0.Name)), .d (.lit (.int .i64 a0.Index)), .d (.lit (.int .i64 a0.Value.Kind)), .d (.lit (.int .i64 a0.Value.Int)), .d (.lit (.string a0.Value.Text)), .d (.sl (a0.Args.map cS27))])), (11, some (.box [.ref 55 0 r39.length, .d (.sl (a1.map cS24)), .d (.sl (a3.map cS24)), .ref 90 0 l81.length, .d (.sl (a2.map cS24))])), (12, some (.box [.mref 60, .mref 61, .d (.sl (a3.map cS24))])), (55, some (.arr 46 3 (r39.map cS46))), (60, some (.mp .string (encM MKey.sk (vA cS24) (mput m99 x115.Name x117)))), (61, some (.mp .string (encM MKey.sk (vA cS24) m82))), (65, some (.arr 46 3 (l83.map cS46))), (90, some (.arr 9 1 (l81.map cS)))]) Sub.tt ?_
        refine Chain.nil ?_
        cases h
        refine PostI.next ?_
        exact Sub.tt
       ·have c114_ : decide (v100 < (r39.length : Int)) = false := decide_eq_false c114
        refine AW.condF (b := decide (v100 < (r39.length : Int))) rfl c114_ ?_
        refine AW.sub (Sub.bool 108 (b := decide (v100 < (r39.length : Int))) rfl c114_) ?_
        refine AW.sub (S' := mk 139 [] [(1, .d (.sl (a1.map cS24))), (4, .ptr 4 0 0), (11, .ptr 11 0 0), (12, .ptr 12 0 0), (13, .ref 65 0 l83.length), (105, .ref 55 0 r39.length), (106, .d (.lit (.int .i64 (r39.length : Int)))), (107, .d (.lit (.int .i64 v100))), (108, .d (.lit (.bool false)))] [(4, some (.box [.d (.lit (.int .i64 a0.Kind)), .d (.lit (.string a0.Name)), .d (.lit (.int .i64 a0.Index)), .d (.lit (.int .i64 a0.Value.Kind)), .d (.lit (.int .i64 a0.Value.Int)), .d (.lit (.string a0.Value.Text)), .d (.sl (a0.Args.map cS27))])), (11, some (.box [.ref 55 0 r39.length, .d (.sl (a1.map cS24)), .d (.sl (a3.map cS24)), .ref 90 0 l81.length, .d (.sl (a2.map cS24))])), (12, some (.box [.mref 60, .mref 61, .d (.sl (a3.map cS24))])), (55, some (.arr 46 3 (r39.map cS46))), (60, some (.mp .string (encM MKey.sk (vA cS24) m99))), (61, some (.mp .string (encM MKey.sk (vA cS24) m82))), (65, some (.arr 46 3 (l83.map cS46))), (90, some (.arr 9 1 (l81.map cS)))]) (by simp; exact Sub.table (by simp) (by simp)) ?_
        refine AW.exit ?_
        cases h
        refine thenQ_pass (by simp) ?_
        refine PostI.out (by simp) ?_
        rintro rfl
        refine blockQ.hit ?_
        refine PostN.next ?_
        exact Sub.tt
      ·rintro m113 h
       refine thenQ_normal ?_
       refine AW.seq ?_
       refine AW.seqR ?_
       refine Chain.runK [] 4 fun K hK => ?_; simp; refine hK _ _ ?_; clear hK K
       refine Chain.sub (S' := mk 139 [] [(4, .ptr 4 0 0), (11, .ptr 11 0 0), (12, .ptr 12 0 0), (123, .ref 55 0 r39.length), (124, .ref 65 0 l83.length), (125, .agg [.d (.lit (.int .i64 a0.Kind)), .d (.lit (.string a0.Name)), .d (.lit (.int .i64 a0.Index)), .d (.lit (.int .i64 a0.Value.Kind)), .d (.lit (.int .i64 a0.Value.Int)), .d (.lit (.string a0.Value.Text)), .d (.sl (a0.Args.map cS27))])] [(4, some (.box [.d (.lit (.int .i64 a0.Kind)), .d (.lit (.string a0.Name)), .d (.lit (.int .i64 a0.Index)), .d (.lit (.int .i64 a0.Value.Kind)), .d (.lit (.int .i64 a0.Value.Int)), .d (.lit (.string a0.Value.Text)), .d (.sl (a0.Args.map cS27))])), (11, some (.box [.ref 55 0 r39.length, .d (.sl (a1.map cS24)), .d (.sl (a3.map cS24)), .ref 90 0 l81.length, .d (.sl (a2.map cS24))])), (12, some (.box [.mref 60, .mref 61, .d (.sl (a3.map cS24))])), (55, some (.arr 46 3 (r39.map cS46))), (60, some (.mp .string (encM MKey.sk (vA cS24) m113))), (61, some (.mp .string (encM MKey.sk (vA cS24) m82))), (65, some (.arr 46 3 (l83.map cS46))), (90, some (.arr 9 1 (l81.map cS)))]) Sub.tt ?_
       replace h := bsome h; obtain ⟨r119, hr119, h⟩ := h
       refine Chain.callL (d := 126) (p7 N r39 l83 a0 r119 hr119) (by simp) rfl rfl (by simp <;> rfl) (by simp <;> rfl) ent7 (by simp <;> rfl) ?_
       refine Chain.sub (S' := mk 139 [] [(4, .ptr 4 0 0), (11, .ptr 11 0 0), (12, .ptr 12 0 0), (123, .ref 55 0 r39.length), (124, .ref 65 0 l83.length), (125, .agg [.d (.lit (.int .i64 a0.Kind)), .d (.lit (.string a0.Name)), .d (.lit (.int .i64 a0.Index)), .d (.lit (.int .i64 a0.Value.Kind)), .d (.lit (.int .i64 a0.Value.Int)), .d (.lit (.string a0.Value.Text)), .d (.sl (a0.Args.map cS27))]), (126, .tup [.d (.lit (.int .i64 r119.1)), .d (.lit (.bool r119.2.1)), .d (.lit (.int .i64 r119.2.2))])] [(4, some (.box [.d (.lit (.int .i64 a0.Kind)), .d (.lit (.string a0.Name)), .d (.lit (.int .i64 a0.Index)), .d (.lit (.int .i64 a0.Value.Kind)), .d (.lit (.int .i64 a0.Value.Int)), .d (.lit (.string a0.Value.Text)), .d (.sl (a0.Args.map cS27))])), (11, some (.box [.ref 55 0 r39.length, .d (.sl (a1.map cS24)), .d (.sl (a3.map cS24)), .ref 90 0 l81.length, .d (.sl (a2.map cS24))])), (12, some (.box [.mref 60, .mref 61, .d (.sl (a3.map cS24))])), (55, some (.arr 46 3 (r39.map cS46))), (60, some (.mp .string (encM MKey.sk (vA cS24) m113))), (61, some (.mp .string (encM MKey.sk (vA cS24) m82))), (65, some (.arr 46 3 (l83.map cS46))), (90, some (.arr 9 1 (l81.map cS)))]) (by simp; exact Sub.table (by simp) (by simp)) ?_
       refine Chain.runK [] 7 fun K hK => ?_; simp; refine hK _ _ ?_; clear hK K
       refine Chain.sub (S' := mk 139 [] [(4, .ptr 4 0 0), (11, .ptr 11 0 0), (12, .ptr 12 0 0), (19, .d (.lit (.int .i64 r119.2.2)))] [(4, some (.box [.d (.lit (.int .i64 a0.Kind)), .d (.lit (.string a0.Name)), .d (.lit (.int .i64 a0.Index)), .d (.lit (.int .i64 a0.Value.Kind)), .d (.lit (.int .i64 a0.Value.Int)), .d (.lit (.string a0.Value.Text)), .d (.sl (a0.Args.map cS27))])), (11, some (.box [.ref 55 0 r39.length, .d (.sl (a1.map cS24)), .d (.sl (a3.map cS24)), .ref 90 0 l81.length, .d (.sl (a2.map cS24))])), (12, some (.box [.mref 60, .mref 61, .d (.sl (a3.map cS24))])), (55, some (.arr 46 3 (r39.map cS46))), (60, some (.mp .string (encM MKey.sk (vA cS24) m113))), (61, some (.mp .string (encM MKey.sk (vA cS24) m82))), (90, some (.arr 9 1 (l81.map cS)))]) Sub.tt ?_
       refine Chain.nil ?_
       refine AW.seqR ?_
       refine Chain.runK [] 2 fun K hK => ?_; simp; refine hK _ _ ?_; clear hK K
       refine Chain.sub (S' := mk 139 [] [(4, .ptr 4 0 0), (11, .ptr 11 0 0), (12, .ptr 12 0 0), (131, .d (.lit (.bool (r119.2.2 != 0))))] [(4, some (.box [.d (.lit (.int .i64 a0.Kind)), .d (.lit (.string a0.Name)), .d (.lit (.int .i64 a0.Index)), .d (.lit (.int .i64 a0.Value.Kind)), .d (.lit (.int .i64 a0.Value.Int)), .d (.lit (.string a0.Value.Text)), .d (.sl (a0.Args.map cS27))])), (11, some (.box [.ref 55 0 r39.length, .d (.sl (a1.map cS24)), .d (.sl (a3.map cS24)), .ref 90 0 l81.length, .d (.sl (a2.map cS24))])), (12, some (.box [.mref 60, .mref 61, .d (.sl (a3.map cS24))])), (55, some (.arr 46 3 (r39.map cS46))), (60, some (.mp .string (encM MKey.sk (vA cS24) m113))), (61, some (.mp .string (encM MKey.sk (vA cS24) m82))), (90, some (.arr 9 1 (l81.map cS)))]) Sub.tt ?_
       refine Chain.nil ?_
       replace h := isome h; rcases h with ⟨c120, h⟩ | ⟨c120, h⟩
       ·have c120_ : (r119.2.2 != 0) = true := c120
        refine AW.condT (b := (r119.2.2 != 0)) rfl c120_ ?_
        refine AW.sub (Sub.bool 131 (b := (r119.2.2 != 0)) rfl c120_) ?_
        refine AW.sub (S' := mk 139 [] [(4, .ptr 4 0 0), (11, .ptr 11 0 0), (12, .ptr 12 0 0), (131, .d (.lit (.bool true)))] [(4, some (.box [.d (.lit (.int .i64 a0.Kind)), .d (.lit (.string a0.Name)), .d (.lit (.int .i64 a0.Index)), .d (.lit (.int .i64 a0.Value.Kind)), .d (.lit (.int .i64 a0.Value.Int)), .d (.lit (.string a0.Value.Text)), .d (.sl (a0.Args.map cS27))])), (11, some (.box [.ref 55 0 r39.length, .d (.sl (a1.map cS24)), .d (.sl (a3.map cS24)), .ref 90 0 l81.length, .d (.sl (a2.map cS24))])), (12, some (.box [.mref 60, .mref 61, .d (.sl (a3.map cS24))])), (55, some (.arr 46 3 (r39.map cS46))), (60, some (.mp .string (encM MKey.sk (vA cS24) m113))), (61, some (.mp .string (encM MKey.sk (vA cS24) m82))), (90, some (.arr 9 1 (l81.map cS)))]) (by simp; exact Sub.table (by simp) (by simp)) ?_
        refine AW.seqR ?_
        refine Chain.runK [] 1 fun K hK => ?_; simp; refine hK _ _ ?_; clear hK K
        refine Chain.sub (S' := mk 139 [] [(8, .d (.lit (.bool true)))] []) Sub.tt ?_
        refine Chain.nil ?_
        refine AW.ret ?_
        cases h
        refine thenQ_pass (by simp) ?_
        exact FinC.ret (by simp) (by simp)
       ·have c120_ : (r119.2.2 != 0) = false := Bool.eq_false_iff.2 c120
        refine AW.condF (b := (r119.2.2 != 0)) rfl c120_ ?_
        refine AW.sub (Sub.bool 131 (b := (r119.2.2 != 0)) rfl c120_) ?_
        refine AW.sub (S' := mk 139 [] [(4, .ptr 4 0 0), (11, .ptr 11 0 0), (12, .ptr 12 0 0), (131, .d (.lit (.bool false)))] [(4, some (.box [.d (.lit (.int .i64 a0.Kind)), .d (.lit (.string a0.Name)), .d (.lit (.int .i64 a0.Index)), .d (.lit (.int .i64 a0.Value.Kind)), .d (.lit (.int .i64 a0.Value.Int)), .d (.lit (.string a0.Value.Text)), .d (.sl (a0.Args.map cS27))])), (11, some (.box [.ref 55 0 r39.length, .d (.sl (a1.map cS24)), .d (.sl (a3.map cS24)), .ref 90 0 l81.length, .d (.sl (a2.map cS24))])), (12, some (.box [.mref 60, .mref 61, .d (.sl (a3.map cS24))])), (55, some (.arr 46 3 (r39.map cS46))), (60, some (.mp .string (encM MKey.sk (vA cS24) m113))), (61, some (.mp .string (encM MKey.sk (vA cS24) m82))), (90, some (.arr 9 1 (l81.map cS)))]) (by simp; exact Sub.table (by simp) (by simp)) ?_
        refine AW.skip ?_
        refine thenQ_normal ?_
        refine AW.sub (Sub.freezeM 60 (ag := true) (cf := cS24) m113 rfl (fun _ => rfl) (fun h => by cases h)) ?_
        refine AW.sub (S' := mk 139 [] [(4, .ptr 4 0 0), (11, .ptr 11 0 0), (12, .ptr 12 0 0), (131, .d (.lit (.bool false)))] [(4, some (.box [.d (.lit (.int .i64 a0.Kind)), .d (.lit (.string a0.Name)), .d (.lit (.int .i64 a0.Index)), .d (.lit (.int .i64 a0.Value.Kind)), .d (.lit (.int .i64 a0.Value.Int)), .d (.lit (.string a0.Value.Text)), .d (.sl (a0.Args.map cS27))])), (11, some (.box [.ref 55 0 r39.length, .d (.sl (a1.map cS24)), .d (.sl (a3.map cS24)), .ref 90 0 l81.length, .d (.sl (a2.map cS24))])), (12, some (.box [.d (.mpi .string true (m113.map (MKey.sk ∘ Prod.fst)) (m113.map (cS24 ∘ Prod.snd))), .mref 61, .d (.sl (a3.map cS24))])), (55, some (.arr 46 3 (r39.map cS46))), (61, some (.mp .string (encM MKey.sk (vA cS24) m82))), (90, some (.arr 9 1 (l81.map cS)))]) (by simp; exact Sub.table (by simp) (by simp)) ?_
        refine AW.sub (Sub.freezeM 61 (ag := true) (cf := cS24) m82 rfl (fun _ => rfl) (fun h => by cases h)) ?_
        refine AW.sub (S' := mk 139 [] [(4, .ptr 4 0 0), (11, .ptr 11 0 0), (12, .ptr 12 0 0), (131, .d (.lit (.bool false)))] [(4, some (.box [.d (.lit (.int .i64 a0.Kind)), .d (.lit (.string a0.Name)), .d (.lit (.int .i64 a0.Index)), .d (.lit (.int .i64 a0.Value.Kind)), .d (.lit (.int .i64 a0.Value.Int)), .d (.lit (.string a0.Value.Text)), .d (.sl (a0.Args.map cS27))])), (11, some (.box [.ref 55 0 r39.length, .d (.sl (a1.map cS24)), .d (.sl (a3.map cS24)), .ref 90 0 l81.length, .d (.sl (a2.map cS24))])), (12, some (.box [.d (.mpi .string true (m113.map (MKey.sk ∘ Prod.fst)) (m113.map (cS24 ∘ Prod.snd))), .d (.mpi .string true (m82.map (MKey.sk ∘ Prod.fst)) (m82.map (cS24 ∘ Prod.snd))), .d (.sl (a3.map cS24))])), (55, some (.arr 46 3 (r39.map cS46))), (90, some (.arr 9 1 (l81.map cS)))]) (by simp; exact Sub.table (by simp) (by simp)) ?_
        replace h := bsome h; obtain ⟨r122, hr122, h⟩ := h
        replace h := bsome h; obtain ⟨r123, hr123, h⟩ := h
        refine AW.seqAnyS [[], [], [0, 1], [], [], [0, 1, 2, 3, 4], [0, 1, 2, 3, 4, 5], [0, 1, 2, 3, 4, 5, 6]] (fun (b : Nat → Bool) => mk 139 [] [(4, .ptr 4 0 0), (8, (if b 7 then .d (.lit (.bool (beqS24 r122 r123))) else .junk)), (11, .ptr 11 0 0), (12, .ptr 12 0 0), (132, (if b 0 then .agg [.ref 55 0 r39.length, .d (.sl (a1.map cS24)), .d (.sl (a3.map cS24)), .ref 90 0 l81.length, .d (.sl (a2.map cS24))] else .junk)), (133, (if b 1 then .agg [.d (.lit (.int .i64 a0.Kind)), .d (.lit (.string a0.Name)), .d (.lit (.int .i64 a0.Index)), .d (.lit (.int .i64 a0.Value.Kind)), .d (.lit (.int .i64 a0.Value.Int)), .d (.lit (.string a0.Value.Text)), .d (.sl (a0.Args.map cS27))] else .junk)), (134, (if b 2 then .agg [.d (.lit (.int .i64 r122.Kind)), .d (.lit (.int .i64 r122.Int)), .d (.lit (.string r122.Text))] else .junk)), (135, (if b 3 then .agg [.d (.mpi .string true (m113.map (MKey.sk ∘ Prod.fst)) (m113.map (cS24 ∘ Prod.snd))), .d (.mpi .string true (m82.map (MKey.sk ∘ Prod.fst)) (m82.map (cS24 ∘ Prod.snd))), .d (.sl (a3.map cS24))] else .junk)), (136, (if b 4 then .agg [.d (.lit (.int .i64 a0.Kind)), .d (.lit (.string a0.Name)), .d (.lit (.int .i64 a0.Index)), .d (.lit (.int .i64 a0.Value.Kind)), .d (.lit (.int .i64 a0.Value.Int)), .d (.lit (.string a0.Value.Text)), .d (.sl (a0.Args.map cS27))] else .junk)), (137, (if b 5 then .agg [.d (.lit (.int .i64 r123.Kind)), .d (.lit (.int .i64 r123.Int)), .d (.lit (.string r123.Text))] else .junk)), (138, (if b 6 then .d (.lit (.bool (beqS24 r122 r123))) else .junk))] [(4, some (.box [.d (.lit (.int .i64 a0.Kind)), .d (.lit (.string a0.Name)), .d (.lit (.int .i64 a0.Index)), .d (.lit (.int .i64 a0.Value.Kind)), .d (.lit (.int .i64 a0.Value.Int)), .d (.lit (.string a0.Value.Text)), .d (.sl (a0.Args.map cS27))])), (11, some (.box [.ref 55 0 r39.length, .d (.sl (a1.map cS24)), .d (.sl (a3.map cS24)), .ref 90 0 l81.length, .d (.sl (a2.map cS24))])), (12, some (.box [.d (.mpi .string true (m113.map (MKey.sk ∘ Prod.fst)) (m113.map (cS24 ∘ Prod.snd))), .d (.mpi .string true (m82.map (MKey.sk ∘ Prod.fst)) (m82.map (cS24 ∘ Prod.snd))), .d (.sl (a3.map cS24))])), (55, some (.arr 46 3 (r39.map cS46))), (90, some (.arr 9 1 (l81.map cS)))]) (mk 139 [] [(8, .d (.lit (.bool (beqS24 r122 r123))))] []) (by kernel_rfl) (by kernel_rfl) Sub.tt (Steps.cons ?_ (Steps.cons ?_ (Steps.cons ?_ (Steps.cons ?_ (Steps.cons ?_ (Steps.cons ?_ (Steps.cons ?_ (Steps.cons ?_ (Steps.nil))))))))) ?_ ?_
        ·intro b h0 ha hd
         have f2 : b 2 = false := hd 2 (by decide)
         have f5 : b 5 = false := hd 5 (by decide)
         have f6 : b 6 = false := hd 6 (by decide)
         have f7 : b 7 = false := hd 7 (by decide)
         refine Chain.runK [] 1 fun K hK => ?_; simp [h0, f2, f5, f6, f7]; refine hK _ _ ?_; clear hK K
         exact Chain.nil (Sub.table (by simp [f2, f5, f6, f7]) (by simp))
        ·intro b h0 ha hd
         have f2 : b 2 = false := hd 2 (by decide)
         have f5 : b 5 = false := hd 5 (by decide)
         have f6 : b 6 = false := hd 6 (by decide)
         have f7 : b 7 = false := hd 7 (by decide)
         refine Chain.runK [] 1 fun K hK => ?_; simp [h0, f2, f5, f6, f7]; refine hK _ _ ?_; clear hK K
         exact Chain.nil (Sub.table (by simp [f2, f5, f6, f7]) (by simp))
        ·intro b h0 ha hd
         have t0 : b 0 = true := ha 0 (by decide)
         have t1 : b 1 = true := ha 1 (by decide)
         have f5 : b 5 = false := hd 5 (by decide)
         have f6 : b 6 = false := hd 6 (by decide)
         have f7 : b 7 = false := hd 7 (by decide)
         simp only [h0, t0, t1, f5, f6, f7, if_true, if_false, Bool.false_eq_true]
         refine Chain.callC (d := 134) (p12 N (S41.mk r39 a1 a3 l81 a2) a0 r122 hr122) (by simp) rfl rfl (by simp <;> rfl) (by simp <;> rfl) ent12 (by simp) (.inr (by simp)) ?_
         exact Chain.nil (by simp [t0, t1, f5, f6, f7]; exact Sub.table (by simp) (by simp))
        ·intro b h0 ha hd
         have f5 : b 5 = false := hd 5 (by decide)
         have f6 : b 6 = false := hd 6 (by decide)
         have f7 : b 7 = false := hd 7 (by decide)
         refine Chain.runK [] 1 fun K hK => ?_; simp [h0, f5, f6, f7]; refine hK _ _ ?_; clear hK K
         exact Chain.nil (Sub.table (by simp [f5, f6, f7]) (by simp))
        ·intro b h0 ha hd
         have f5 : b 5 = false := hd 5 (by decide)
         have f6 : b 6 = false := hd 6 (by decide)
         have f7 : b 7 = false := hd 7 (by decide)
         refine Chain.runK [] 1 fun K hK => ?_; simp [h0, f5, f6, f7]; refine hK _ _ ?_; clear hK K
         exact Chain.nil (Sub.table (by simp [f5, f6, f7]) (by simp))
        ·intro b h0 ha hd
         have t0 : b 0 = true := ha 0 (by decide)
         have t1 : b 1 = true := ha 1 (by decide)
         have t2 : b 2 = true := ha 2 (by decide)
         have t3 : b 3 = true := ha 3 (by decide)
         have t4 : b 4 = true := ha 4 (by decide)
         have f6 : b 6 = false := hd 6 (by decide)
         have f7 : b 7 = false := hd 7 (by decide)
         simp only [h0, t0, t1, t2, t3, t4, f6, f7, if_true, if_false, Bool.false_eq_true]
         refine Chain.callC (d := 137) (p13 N (S44.mk m113 m82 a3) a0 r123 hr123) (by simp) rfl rfl (by simp <;> rfl) (by simp <;> rfl) ent13 (by simp) (.inl ⟨by simp, by simp⟩) ?_
         exact Chain.nil (by simp [t0, t1, t2, t3, t4, f6, f7]; exact Sub.table (by simp) (by simp))
        ·intro b h0 ha hd
         have t0 : b 0 = true := ha 0 (by decide)
         have t1 : b 1 = true := ha 1 (by decide)
         have t2 : b 2 = true := ha 2 (by decide)
         have t3 : b 3 = true := ha 3 (by decide)
         have t4 : b 4 = true := ha 4 (by decide)
         have t5 : b 5 = true := ha 5 (by decide)
         have f7 : b 7 = false := hd 7 (by decide)
         simp only [h0, t0, t1, t2, t3, t4, t5, f7, if_true, if_false, Bool.false_eq_true]
         refine Chain.pureP (by simp) (pure_eqA false rfl rfl rfl rfl (by kernel_rfl) (eqv24 r122 r123)) ?_
         exact Chain.nil (by simp [t0, t1, t2, t3, t4, t5, f7]; exact Sub.table (by simp) (by simp))
        ·intro b h0 ha hd
         have t0 : b 0 = true := ha 0 (by decide)
         have t1 : b 1 = true := ha 1 (by decide)
         have t2 : b 2 = true := ha 2 (by decide)
         have t3 : b 3 = true := ha 3 (by decide)
         have t4 : b 4 = true := ha 4 (by decide)
         have t5 : b 5 = true := ha 5 (by decide)
         have t6 : b 6 = true := ha 6 (by decide)
         refine Chain.runK [] 1 fun K hK => ?_; simp [h0, t0, t1, t2, t3, t4, t5, t6]; refine hK _ _ ?_; clear hK K
         exact Chain.nil (Sub.table (by simp [t0, t1, t2, t3, t4, t5, t6]) (by simp))
        ·intro b hb
         have t0 := hb 0 (by decide)
         have t1 := hb 1 (by decide)
         have t2 := hb 2 (by decide)
         have t3 := hb 3 (by decide)
         have t4 := hb 4 (by decide)
         have t5 := hb 5 (by decide)
         have t6 := hb 6 (by decide)
         have t7 := hb 7 (by decide)
         exact Sub.table (by simp [t0, t1, t2, t3, t4, t5, t6, t7]) (by simp)
        ·skip
         refine AW.ret ?_
         cases h
         exact FinC.ret (by simp) (by simp)

end Go.Proofs.Ytacafkegbgmnoaa
