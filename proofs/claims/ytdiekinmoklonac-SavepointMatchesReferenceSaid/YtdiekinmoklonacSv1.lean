/- Functions of the program as functional programs; the code computes them. -/
import Derived.Test.YtdiekinmoklonacSv0
namespace Go.Proofs.Ytdiekinmoklonac
open Go.Ab Go.Rp
attribute [-simp] List.all_eq_true Array.all_toList Array.all_eq_true

/-- slices.BinarySearchFunc[[]stemma/savepoint.Entry,stemma/savepoint.Entry,string] -/
def d25 (N : Nat) (a0 : (List S30)) (a1 : ByteArray) (p2 : S30 → ByteArray → Option Int) : Option (Int × Bool) :=
 Option.bind (α := Int) (
  iterN (σ := (Int × Int)) (ρ := Int) (fun ((v11, v12) : (Int × Int)) =>
   if v11 < v12 then (
    (chkI (v11 + v12)).bind fun v37 =>
    letv (IntKind.u64.wrap (v37)) fun v38 =>
    letv (shrI v38 1) fun v39 =>
    (chkI (v39)).bind fun v40 =>
    (idx a0 v40).bind fun x41 =>
    (p2 x41 a1).bind fun r43 =>
    if r43 < 0 then (
     (chkI (v40 + 1)).bind fun v45 =>
     some (.inl (v45, v12))
    ) else
    some (.inl (v11, v40))
   ) else
   some (.inr v11)
  ) N (0, (a0.length : Int))
 ) fun (v35 : Int) =>
 Option.bind (α := Bool) (
  if v35 < (a0.length : Int) then (
   (idx a0 v35).bind fun x52 =>
   (p2 x52 a1).bind fun r54 =>
   some (r54 == 0)
  ) else
  some false
 ) fun (v50 : Bool) =>
 some (v35, v50)
set_option maxRecDepth 100000 in
set_option maxHeartbeats 4000000 in
theorem p25 (N : Nat) (a0 : (List S30)) (a1 : ByteArray) (g2 : Nat) (cs2 : List D) (p2 : S30 → ByteArray → Option Int) (ent_2 : Rp.Enters Try.prog g2) (hp2 : ∀ a0 a1 r, p2 a0 a1 = some r → FunC Try.prog g2 ([.agg [.d (.lit (.string a0.Key)), .d (.lit (.int .i64 a0.Value))], .d (.lit (.string a1))] ++ cs2.map .d) (.d (.lit (.int .i64 r)))) (r : (Int × Bool)) (h : d25 N a0 a1 p2 = some r) : FunC Try.prog 25 [.d (.sl (a0.map cS30)), .d (.lit (.string a1)), .fn (.func g2) (cs2.map .d)] (.tup [.d (.lit (.int .i64 r.1)), .d (.lit (.bool r.2))]) := by
 unfold d25 at h
 refine FunC.enter 49 [(0, .d (.sl (a0.map cS30))), (1, .d (.lit (.string a1))), (2, .fn (.func g2) (cs2.map .d))] (by simp) Try.func25 rfl (of_decide_eq_true rfl) rfl rfl ?_
 refine AW.seqR ?_
 refine Chain.runK [] 2 fun K hK => ?_; simp; refine hK _ _ ?_; clear hK K
 refine Chain.sub (S' := mk 49 [] [(0, .d (.sl (a0.map cS30))), (1, .d (.lit (.string a1))), (2, .fn (.func g2) (cs2.map .d))] []) Sub.tt ?_
 refine Chain.nil ?_
 refine AW.seqR ?_
 refine Chain.runK [] 3 fun K hK => ?_; simp; refine hK _ _ ?_; clear hK K
 refine Chain.sub (S' := mk 49 [] [(0, .d (.sl (a0.map cS30))), (1, .d (.lit (.string a1))), (2, .fn (.func g2) (cs2.map .d)), (8, .d (.lit (.int .i64 (a0.length : Int))))] []) Sub.tt ?_
 refine Chain.nil ?_
 refine AW.seqR ?_
 refine Chain.runK [] 3 fun K hK => ?_; simp; refine hK _ _ ?_; clear hK K
 refine Chain.sub (S' := mk 49 [] [(0, .d (.sl (a0.map cS30))), (1, .d (.lit (.string a1))), (2, .fn (.func g2) (cs2.map .d)), (8, .d (.lit (.int .i64 (a0.length : Int)))), (9, .d (.lit (.int .i64 0))), (10, .d (.lit (.int .i64 (a0.length : Int))))] []) Sub.tt ?_
 refine Chain.nil ?_
 refine AW.seqN (fun (v35 : Int) => mk 49 [] [(0, .d (.sl (a0.map cS30))), (1, .d (.lit (.string a1))), (2, .fn (.func g2) (cs2.map .d)), (8, .d (.lit (.int .i64 (a0.length : Int)))), (9, .d (.lit (.int .i64 v35)))] []) h ?_ ?_ <;> clear h
 ·intro o h
  refine AW.block ?_
  refine AW.iter (fun ((v11, v12) : (Int × Int)) => mk 49 [] [(0, .d (.sl (a0.map cS30))), (1, .d (.lit (.string a1))), (2, .fn (.func g2) (cs2.map .d)), (8, .d (.lit (.int .i64 (a0.length : Int)))), (9, .d (.lit (.int .i64 v11))), (10, .d (.lit (.int .i64 v12)))] []) h Sub.tt ?_
  clear h
  rintro ⟨v11, v12⟩ x h
  dsimp only at h ⊢
  refine AW.seq ?_
  refine AW.seqR ?_
  refine Chain.runK [] 3 fun K hK => ?_; simp; refine hK _ _ ?_; clear hK K
  refine Chain.sub (S' := mk 49 [] [(0, .d (.sl (a0.map cS30))), (1, .d (.lit (.string a1))), (2, .fn (.func g2) (cs2.map .d)), (8, .d (.lit (.int .i64 (a0.length : Int)))), (9, .d (.lit (.int .i64 v11))), (10, .d (.lit (.int .i64 v12))), (17, .d (.lit (.bool (decide (v11 < v12)))))] []) Sub.tt ?_
  refine Chain.nil ?_
  replace h := isome h; rcases h with ⟨c36, h⟩ | ⟨c36, h⟩
  ·have c36_ : decide (v11 < v12) = true := decide_eq_true c36
   refine AW.condT (b := decide (v11 < v12)) rfl c36_ ?_
   refine AW.sub (Sub.bool 17 (b := decide (v11 < v12)) rfl c36_) ?_
   refine AW.sub (S' := mk 49 [] [(0, .d (.sl (a0.map cS30))), (1, .d (.lit (.string a1))), (2, .fn (.func g2) (cs2.map .d)), (8, .d (.lit (.int .i64 (a0.length : Int)))), (9, .d (.lit (.int .i64 v11))), (10, .d (.lit (.int .i64 v12))), (17, .d (.lit (.bool true)))] []) (by simp; exact Sub.table (by simp) (by simp)) ?_
   refine AW.skip ?_
   refine thenQ_normal ?_
   refine AW.block ?_
   refine AW.seqR ?_
   replace h := bsome h; obtain ⟨v37, hv37, h⟩ := h
   have hv37 := chkI_some hv37
   replace h := lsome h; obtain ⟨v38, hv38, h⟩ := h
   replace h := lsome h; obtain ⟨v39, hv39, h⟩ := h
   replace h := bsome h; obtain ⟨v40, hv40, h⟩ := h
   have hv40 := chkI_some hv40
   refine Chain.runK [] 7 fun K hK => ?_; simp [hv37, hv38, hv39, IntKind.bits, hv40]; refine hK _ _ ?_; clear hK K
   refine Chain.sub (S' := mk 49 [] [(0, .d (.sl (a0.map cS30))), (1, .d (.lit (.string a1))), (2, .fn (.func g2) (cs2.map .d)), (8, .d (.lit (.int .i64 (a0.length : Int)))), (9, .d (.lit (.int .i64 v11))), (10, .d (.lit (.int .i64 v12))), (11, .d (.lit (.int .i64 v40)))] []) Sub.tt ?_
   refine Chain.nil ?_
   refine AW.seqR ?_
   replace h := bsome h; obtain ⟨x41, hx41, h⟩ := h
   obtain ⟨k42, hx41k, hx41, hx41a, hx41b⟩ := idx_some hx41
   refine Chain.runK [] 6 fun K hK => ?_; simp [hx41, hx41k, hx41a]; refine hK _ _ ?_; clear hK K
   refine Chain.sub (S' := mk 49 [] [(0, .d (.sl (a0.map cS30))), (1, .d (.lit (.string a1))), (2, .fn (.func g2) (cs2.map .d)), (8, .d (.lit (.int .i64 (a0.length : Int)))), (9, .d (.lit (.int .i64 v11))), (10, .d (.lit (.int .i64 v12))), (11, .d (.lit (.int .i64 v40))), (24, .fn (.func g2) (cs2.map .d)), (28, .agg [.d (.lit (.string x41.Key)), .d (.lit (.int .i64 x41.Value))]), (29, .d (.lit (.string a1)))] []) Sub.tt ?_
   replace h := bsome h; obtain ⟨r43, hr43, h⟩ := h
   refine Chain.callL (d := 30) (hp2 x41 a1 r43 hr43) (by simp) rfl rfl (by simp <;> rfl) (by simp <;> rfl) ent_2 (by simp <;> rfl) ?_
   refine Chain.sub (S' := mk 49 [] [(0, .d (.sl (a0.map cS30))), (1, .d (.lit (.string a1))), (2, .fn (.func g2) (cs2.map .d)), (8, .d (.lit (.int .i64 (a0.length : Int)))), (9, .d (.lit (.int .i64 v11))), (10, .d (.lit (.int .i64 v12))), (11, .d (.lit (.int .i64 v40))), (24, .fn (.func g2) (cs2.map .d)), (28, .agg [.d (.lit (.string x41.Key)), .d (.lit (.int .i64 x41.Value))]), (29, .d (.lit (.string a1))), (30, .d (.lit (.int .i64 r43)))] []) (by simp; exact Sub.table (by simp) (by simp)) ?_
   refine Chain.runK [] 1 fun K hK => ?_; simp; refine hK _ _ ?_; clear hK K
   refine Chain.sub (S' := mk 49 [] [(0, .d (.sl (a0.map cS30))), (1, .d (.lit (.string a1))), (2, .fn (.func g2) (cs2.map .d)), (8, .d (.lit (.int .i64 (a0.length : Int)))), (9, .d (.lit (.int .i64 v11))), (10, .d (.lit (.int .i64 v12))), (11, .d (.lit (.int .i64 v40))), (31, .d (.lit (.bool (decide (r43 < 0)))))] []) Sub.tt ?_
   refine Chain.nil ?_
   replace h := isome h; rcases h with ⟨c44, h⟩ | ⟨c44, h⟩
   ·have c44_ : decide (r43 < 0) = true := decide_eq_true c44
    refine AW.condT (b := decide (r43 < 0)) rfl c44_ ?_
    refine AW.sub (Sub.bool 31 (b := decide (r43 < 0)) rfl c44_) ?_
    refine AW.sub (S' := mk 49 [] [(0, .d (.sl (a0.map cS30))), (1, .d (.lit (.string a1))), (2, .fn (.func g2) (cs2.map .d)), (8, .d (.lit (.int .i64 (a0.length : Int)))), (9, .d (.lit (.int .i64 v11))), (10, .d (.lit (.int .i64 v12))), (11, .d (.lit (.int .i64 v40))), (31, .d (.lit (.bool true)))] []) (by simp; exact Sub.table (by simp) (by simp)) ?_
    refine AW.region ?_
    replace h := bsome h; obtain ⟨v45, hv45, h⟩ := h
    have hv45 := chkI_some hv45
    refine Chain.runK [] 3 fun K hK => ?_; simp [hv45]; refine hK _ _ ?_; clear hK K
    refine Chain.sub (S' := mk 49 [] [(0, .d (.sl (a0.map cS30))), (1, .d (.lit (.string a1))), (2, .fn (.func g2) (cs2.map .d)), (8, .d (.lit (.int .i64 (a0.length : Int)))), (9, .d (.lit (.int .i64 v45))), (10, .d (.lit (.int .i64 v12)))] []) Sub.tt ?_
    refine Chain.nil ?_
    cases h
    refine blockQ.normal ?_
    refine PostI.next ?_
    exact Sub.tt
   ·have c44_ : decide (r43 < 0) = false := decide_eq_false c44
    refine AW.condF (b := decide (r43 < 0)) rfl c44_ ?_
    refine AW.sub (Sub.bool 31 (b := decide (r43 < 0)) rfl c44_) ?_
    refine AW.sub (S' := mk 49 [] [(0, .d (.sl (a0.map cS30))), (1, .d (.lit (.string a1))), (2, .fn (.func g2) (cs2.map .d)), (8, .d (.lit (.int .i64 (a0.length : Int)))), (9, .d (.lit (.int .i64 v11))), (10, .d (.lit (.int .i64 v12))), (11, .d (.lit (.int .i64 v40))), (31, .d (.lit (.bool false)))] []) (by simp; exact Sub.table (by simp) (by simp)) ?_
    refine AW.region ?_
    refine Chain.runK [] 2 fun K hK => ?_; simp; refine hK _ _ ?_; clear hK K
    refine Chain.sub (S' := mk 49 [] [(0, .d (.sl (a0.map cS30))), (1, .d (.lit (.string a1))), (2, .fn (.func g2) (cs2.map .d)), (8, .d (.lit (.int .i64 (a0.length : Int)))), (9, .d (.lit (.int .i64 v11))), (10, .d (.lit (.int .i64 v40)))] []) Sub.tt ?_
    refine Chain.nil ?_
    cases h
    refine blockQ.normal ?_
    refine PostI.next ?_
    exact Sub.tt
  ·have c36_ : decide (v11 < v12) = false := decide_eq_false c36
   refine AW.condF (b := decide (v11 < v12)) rfl c36_ ?_
   refine AW.sub (Sub.bool 17 (b := decide (v11 < v12)) rfl c36_) ?_
   refine AW.sub (S' := mk 49 [] [(0, .d (.sl (a0.map cS30))), (1, .d (.lit (.string a1))), (2, .fn (.func g2) (cs2.map .d)), (8, .d (.lit (.int .i64 (a0.length : Int)))), (9, .d (.lit (.int .i64 v11))), (10, .d (.lit (.int .i64 v12))), (17, .d (.lit (.bool false)))] []) (by simp; exact Sub.table (by simp) (by simp)) ?_
   refine AW.exit ?_
   cases h
   refine thenQ_pass (by simp) ?_
   refine PostI.out (by simp) ?_
   rintro rfl
   refine blockQ.hit ?_
   refine PostN.next ?_
   exact Sub.tt
 ·rintro v35 h
  replace h := bsome h; obtain ⟨v50, hj, h⟩ := h
  refine AW.cutR (mk 49 [] [(6, .d (.lit (.int .i64 v35))), (7, .d (.lit (.bool v50)))] []) ?_ ?_
  ·clear h; have h := hj; clear hj
   refine Chain.runK [] 5 fun K hK => ?_; simp; refine hK _ _ ?_; clear hK K
   refine Chain.sub (S' := mk 49 [] [(0, .d (.sl (a0.map cS30))), (1, .d (.lit (.string a1))), (2, .fn (.func g2) (cs2.map .d)), (9, .d (.lit (.int .i64 v35))), (35, .d (.lit (.int .i64 v35))), (39, .d (.lit (.bool (decide (v35 < (a0.length : Int))))))] []) Sub.tt ?_
   replace h := isome h; rcases h with ⟨c51, h⟩ | ⟨c51, h⟩
   ·have c51_ : decide (v35 < (a0.length : Int)) = true := decide_eq_true c51
    refine Chain.sub (Sub.bool 39 (b := decide (v35 < (a0.length : Int))) rfl c51_) ?_
    refine Chain.sub (S' := mk 49 [] [(0, .d (.sl (a0.map cS30))), (1, .d (.lit (.string a1))), (2, .fn (.func g2) (cs2.map .d)), (9, .d (.lit (.int .i64 v35))), (35, .d (.lit (.int .i64 v35))), (39, .d (.lit (.bool true)))] []) (by simp; exact Sub.table (by simp) (by simp)) ?_
    replace h := bsome h; obtain ⟨x52, hx52, h⟩ := h
    obtain ⟨k53, hx52k, hx52, hx52a, hx52b⟩ := idx_some hx52
    refine Chain.runK [] 6 fun K hK => ?_; simp [hx52, hx52k, hx52a]; refine hK _ _ ?_; clear hK K
    refine Chain.sub (S' := mk 49 [] [(35, .d (.lit (.int .i64 v35))), (39, .d (.lit (.bool true))), (40, .fn (.func g2) (cs2.map .d)), (44, .agg [.d (.lit (.string x52.Key)), .d (.lit (.int .i64 x52.Value))]), (45, .d (.lit (.string a1)))] []) Sub.tt ?_
    replace h := bsome h; obtain ⟨r54, hr54, h⟩ := h
    refine Chain.callL (d := 46) (hp2 x52 a1 r54 hr54) (by simp) rfl rfl (by simp <;> rfl) (by simp <;> rfl) ent_2 (by simp <;> rfl) ?_
    refine Chain.sub (S' := mk 49 [] [(35, .d (.lit (.int .i64 v35))), (39, .d (.lit (.bool true))), (40, .fn (.func g2) (cs2.map .d)), (44, .agg [.d (.lit (.string x52.Key)), .d (.lit (.int .i64 x52.Value))]), (45, .d (.lit (.string a1))), (46, .d (.lit (.int .i64 r54)))] []) (by simp; exact Sub.table (by simp) (by simp)) ?_
    refine Chain.runK [] 4 fun K hK => ?_; simp; refine hK _ _ ?_; clear hK K
    refine Chain.sub (S' := mk 49 [] [(6, .d (.lit (.int .i64 v35))), (7, .d (.lit (.bool (r54 == 0))))] []) Sub.tt ?_
    cases h
    exact Chain.nil Sub.tt
   ·have c51_ : decide (v35 < (a0.length : Int)) = false := decide_eq_false c51
    refine Chain.sub (Sub.bool 39 (b := decide (v35 < (a0.length : Int))) rfl c51_) ?_
    refine Chain.sub (S' := mk 49 [] [(0, .d (.sl (a0.map cS30))), (1, .d (.lit (.string a1))), (2, .fn (.func g2) (cs2.map .d)), (9, .d (.lit (.int .i64 v35))), (35, .d (.lit (.int .i64 v35))), (39, .d (.lit (.bool false)))] []) (by simp; exact Sub.table (by simp) (by simp)) ?_
    refine Chain.runK [] 11 fun K hK => ?_; simp; refine hK _ _ ?_; clear hK K
    refine Chain.sub (S' := mk 49 [] [(6, .d (.lit (.int .i64 v35))), (7, .d (.lit (.bool false)))] []) Sub.tt ?_
    cases h
    exact Chain.nil Sub.tt
  ·clear hj
   refine AW.ret ?_
   cases h
   exact FinC.ret (by simp) (by simp)

def d33 (_N : Nat) (a0 a1 : ByteArray) : Option Int := some (Lib.compareBytes a0.data.toList a1.data.toList)
theorem p33 (N : Nat) (a0 a1 : ByteArray) (r : Int) (h : d33 N a0 a1 = some r) : FunC Try.prog 33 [.d (.lit (.string a0)), .d (.lit (.string a1))] (.d (.lit (.int .i64 r))) := by
 injection h with h; subst h
 exact FunC.of_calls (vals := [.string a0, .string a1]) (by rintro E w vs ⟨_, _, rfl, ⟨rfl, _⟩, _, _, rfl, ⟨rfl, _⟩, rfl⟩; rfl) rfl (fun w _ => (Try.bytealg_CompareString a0 a1 w).mono (by rintro e w2 ⟨rfl, rfl⟩; exact ⟨rfl, .refl _ _⟩))

/-- strings.Compare -/
def d27 (N : Nat) (a0 : ByteArray) (a1 : ByteArray) : Option Int :=
 (d33 N a0 a1).bind fun r1 =>
 some r1
set_option maxRecDepth 100000 in
set_option maxHeartbeats 4000000 in
theorem p27 (N : Nat) (a0 : ByteArray) (a1 : ByteArray) (r : Int) (h : d27 N a0 a1 = some r) : FunC Try.prog 27 [.d (.lit (.string a0)), .d (.lit (.string a1))] (.d (.lit (.int .i64 r))) := by
 unfold d27 at h
 refine FunC.enter 8 [(0, .d (.lit (.string a0))), (1, .d (.lit (.string a1)))] (by simp) Try.func27 rfl (of_decide_eq_true rfl) rfl rfl ?_
 refine AW.seqR ?_
 refine Chain.runK [] 1 fun K hK => ?_; simp; refine hK _ _ ?_; clear hK K
 refine Chain.sub (S' := mk 8 [] [(0, .d (.lit (.string a0))), (1, .d (.lit (.string a1)))] []) Sub.tt ?_
 refine Chain.nil ?_
 refine AW.seqR ?_
 refine Chain.runK [] 2 fun K hK => ?_; simp; refine hK _ _ ?_; clear hK K
 refine Chain.sub (S' := mk 8 [] [(5, .d (.lit (.string a0))), (6, .d (.lit (.string a1)))] []) Sub.tt ?_
 replace h := bsome h; obtain ⟨r1, hr1, h⟩ := h
 refine Chain.callL (d := 7) (p33 N a0 a1 r1 hr1) (by simp) rfl rfl (by simp <;> rfl) (by simp <;> rfl) ent33 (by simp <;> rfl) ?_
 refine Chain.sub (S' := mk 8 [] [(5, .d (.lit (.string a0))), (6, .d (.lit (.string a1))), (7, .d (.lit (.int .i64 r1)))] []) (by simp; exact Sub.table (by simp) (by simp)) ?_
 refine Chain.runK [] 1 fun K hK => ?_; simp; refine hK _ _ ?_; clear hK K
 refine Chain.sub (S' := mk 8 [] [(4, .d (.lit (.int .i64 r1)))] []) Sub.tt ?_
 refine Chain.nil ?_
 refine AW.ret ?_
 cases h
 exact FinC.ret (by simp) (by simp)

/-- (*stemma/savepoint.Tx).search$1 -/
def d26 (N : Nat) (a0 : S30) (a1 : ByteArray) : Option Int :=
 (d27 N a0.Key a1).bind fun r1 =>
 some r1
set_option maxRecDepth 100000 in
set_option maxHeartbeats 4000000 in
theorem p26 (N : Nat) (a0 : S30) (a1 : ByteArray) (r : Int) (h : d26 N a0 a1 = some r) : FunC Try.prog 26 [.agg [.d (.lit (.string a0.Key)), .d (.lit (.int .i64 a0.Value))], .d (.lit (.string a1))] (.d (.lit (.int .i64 r))) := by
 unfold d26 at h
 refine FunC.enter 9 [(0, .agg [.d (.lit (.string a0.Key)), .d (.lit (.int .i64 a0.Value))]), (1, .d (.lit (.string a1)))] (by simp) Try.func26 rfl (of_decide_eq_true rfl) rfl rfl ?_
 refine AW.seqR ?_
 refine Chain.runK [] 2 fun K hK => ?_; simp; refine hK _ _ ?_; clear hK K
 refine Chain.sub (S' := mk 9 [] [(1, .d (.lit (.string a1))), (2, .ptr 2 0 0)] [(2, some (.box [.d (.lit (.string a0.Key)), .d (.lit (.int .i64 a0.Value))]))]) Sub.tt ?_
 refine Chain.nil ?_
 refine AW.seqR ?_
 refine Chain.runK [] 3 fun K hK => ?_; simp; refine hK _ _ ?_; clear hK K
 refine Chain.sub (S' := mk 9 [] [(6, .d (.lit (.string a0.Key))), (7, .d (.lit (.string a1)))] []) Sub.tt ?_
 replace h := bsome h; obtain ⟨r1, hr1, h⟩ := h
 refine Chain.callL (d := 8) (p27 N a0.Key a1 r1 hr1) (by simp) rfl rfl (by simp <;> rfl) (by simp <;> rfl) ent27 (by simp <;> rfl) ?_
 refine Chain.sub (S' := mk 9 [] [(6, .d (.lit (.string a0.Key))), (7, .d (.lit (.string a1))), (8, .d (.lit (.int .i64 r1)))] []) (by simp; exact Sub.table (by simp) (by simp)) ?_
 refine Chain.runK [] 1 fun K hK => ?_; simp; refine hK _ _ ?_; clear hK K
 refine Chain.sub (S' := mk 9 [] [(4, .d (.lit (.int .i64 r1)))] []) Sub.tt ?_
 refine Chain.nil ?_
 refine AW.ret ?_
 cases h
 exact FinC.ret (by simp) (by simp)

/-- (*stemma/savepoint.Tx).search -/
def d14 (N : Nat) (a0 : S47) (a1 : ByteArray) : Option (Int × Bool) :=
 (d25 N a0.entries a1 (fun b0 b1 => d26 N b0 b1 )).bind fun r1 =>
 some (r1.1, r1.2)
set_option maxRecDepth 100000 in
set_option maxHeartbeats 4000000 in
theorem p14 (N : Nat) (a0 : S47) (a1 : ByteArray) (r : (Int × Bool)) (h : d14 N a0 a1 = some r) : FunC Try.prog 14 [.d (.pim [.sl (a0.entries.map cS30), .sl (a0.savepoints.map (cL cS30))]), .d (.lit (.string a1))] (.tup [.d (.lit (.int .i64 r.1)), .d (.lit (.bool r.2))]) := by
 unfold d14 at h
 refine FunC.enter 14 [(0, .d (.pim [.sl (a0.entries.map cS30), .sl (a0.savepoints.map (cL cS30))])), (1, .d (.lit (.string a1)))] (by simp) Try.func14 rfl (of_decide_eq_true rfl) rfl rfl ?_
 refine AW.seqR ?_
 refine Chain.runK [] 2 fun K hK => ?_; simp; refine hK _ _ ?_; clear hK K
 refine Chain.sub (S' := mk 14 [] [(0, .d (.pim [.sl (a0.entries.map cS30), .sl (a0.savepoints.map (cL cS30))])), (1, .d (.lit (.string a1)))] []) Sub.tt ?_
 refine Chain.nil ?_
 refine AW.seqR ?_
 refine Chain.runK [] 5 fun K hK => ?_; simp; refine hK _ _ ?_; clear hK K
 refine Chain.sub (S' := mk 14 [] [(9, .d (.sl (a0.entries.map cS30))), (10, .d (.lit (.string a1)))] []) Sub.tt ?_
 replace h := bsome h; obtain ⟨r1, hr1, h⟩ := h
 refine Chain.callL (d := 11) (FunC.argsF (args := [.d (.sl (a0.entries.map cS30)), .d (.lit (.string a1)), .d (.lit (.func (.func 26) #[] #[]))]) (p25 N a0.entries a1 26 [] (fun b0 b1 => d26 N b0 b1 ) ent26 (fun b0 b1 r h => p26 N b0 b1  r h) r1 hr1) (by simp [V.wf]) rfl) (by simp) rfl rfl (by simp <;> rfl) (by simp <;> rfl) ent25 (by simp <;> rfl) ?_
 refine Chain.sub (S' := mk 14 [] [(9, .d (.sl (a0.entries.map cS30))), (10, .d (.lit (.string a1))), (11, .tup [.d (.lit (.int .i64 r1.1)), .d (.lit (.bool r1.2))])] []) (by simp; exact Sub.table (by simp) (by simp)) ?_
 refine Chain.runK [] 4 fun K hK => ?_; simp; refine hK _ _ ?_; clear hK K
 refine Chain.sub (S' := mk 14 [] [(4, .d (.lit (.int .i64 r1.1))), (5, .d (.lit (.bool r1.2)))] []) Sub.tt ?_
 refine Chain.nil ?_
 refine AW.ret ?_
 cases h
 exact FinC.ret (by simp) (by simp)

/-- slices.Insert of one element -/
def d16 (_N : Nat) (a0 : List S30) (a1 : Int) (a2 : List S30) : Option (List S30) := insL 24 a0 a1 a2
theorem p16 (N : Nat) (a0 : List S30) (a1 : Int) (a2 : List S30) (r : List S30) (h : d16 N a0 a1 a2 = some r) :
  FunM Try.prog 16 [.ref 1000 0 a0.length, .d (.lit (.int .i64 a1)), .ref 1001 0 a2.length] [(1000, some (.arr 30 2 (a0.map cS30))), (1001, some (.arr 30 2 (a2.map cS30)))] [] (.ref 1000 0 r.length) [(1000, .arr 30 2 (r.map cS30))] :=
 ins_funM cS30 (fun _ => rfl) a0 a2 a1 r h

/-- (*stemma/savepoint.Tx).Put -/
def d8 (N : Nat) (a0 : S47) (a1 : ByteArray) (a2 : Int) : Option (S47 × Int) :=
 if (a1.size : Int) > 24 then (
  some (a0, 2)
 ) else
 (d14 N a0 a1).bind fun r2 =>
 Option.bind (α := Bool) (
  if (!r2.2) = true then (
   some ((a0.entries.length : Int) == 40)
  ) else
  some false
 ) fun (v4 : Bool) =>
 if v4 = true then (
  some (a0, 18)
 ) else
 if r2.2 = true then (
  (idx a0.entries r2.1).bind fun x8 =>
  letv (setI a0.entries r2.1 (S30.mk x8.Key a2)) fun l10 =>
  some ((S47.mk l10 a0.savepoints), 0)
 ) else
 (d16 N a0.entries r2.1 ([(S30.mk a1 a2)] : List S30)).bind fun l11 =>
 some ((S47.mk l11 a0.savepoints), 0)
set_option maxRecDepth 100000 in
set_option maxHeartbeats 4000000 in
theorem p8 (N : Nat) (a0 : S47) (a1 : ByteArray) (a2 : Int) (r : (S47 × Int)) (h : d8 N a0 a1 a2 = some r) : FunM Try.prog 8 [.ptr 1000 0 0, .d (.lit (.string a1)), .d (.lit (.int .i64 a2))] [(1000, some (.box [.ref 25000 0 a0.entries.length, .ref 25001 0 a0.savepoints.length])), (25000, some (.arr 30 2 (a0.entries.map cS30))), (25001, some (.arr 22 1 (a0.savepoints.map (cL cS30))))] [1000] (.d (.lit (.int .i64 r.2))) ([(1000, (.box [.ref 25000 0 r.1.entries.length, .ref 25001 0 r.1.savepoints.length])), (25000, (.arr 30 2 (r.1.entries.map cS30))), (25001, (.arr 22 1 (r.1.savepoints.map (cL cS30))))]) := by
 unfold d8 at h
 refine FunM.enter 50 [(0, .ptr 1000 0 0), (1, .d (.lit (.string a1))), (2, .d (.lit (.int .i64 a2)))] Try.func8 rfl (of_decide_eq_true rfl) rfl rfl ?_
 refine AW.seqR ?_
 refine Chain.runK [] 1 fun K hK => ?_; simp; refine hK _ _ ?_; clear hK K
 refine Chain.sub (S' := mk 50 [1000] [(0, .ptr 1000 0 0), (1, .d (.lit (.string a1))), (2, .d (.lit (.int .i64 a2)))] [(1000, some (.box [.ref 25000 0 a0.entries.length, .ref 25001 0 a0.savepoints.length])), (25000, some (.arr 30 2 (a0.entries.map cS30))), (25001, some (.arr 22 1 (a0.savepoints.map (cL cS30))))]) Sub.tt ?_
 refine Chain.nil ?_
 refine AW.seq ?_
 refine AW.seqR ?_
 refine Chain.runK [] 3 fun K hK => ?_; simp; refine hK _ _ ?_; clear hK K
 refine Chain.sub (S' := mk 50 [1000] [(0, .ptr 1000 0 0), (1, .d (.lit (.string a1))), (2, .d (.lit (.int .i64 a2))), (11, .d (.lit (.bool (decide ((a1.size : Int) > 24)))))] [(1000, some (.box [.ref 25000 0 a0.entries.length, .ref 25001 0 a0.savepoints.length])), (25000, some (.arr 30 2 (a0.entries.map cS30))), (25001, some (.arr 22 1 (a0.savepoints.map (cL cS30))))]) Sub.tt ?_
 refine Chain.nil ?_
 replace h := isome h; rcases h with ⟨c1, h⟩ | ⟨c1, h⟩
 ·have c1_ : decide ((a1.size : Int) > 24) = true := decide_eq_true c1
  refine AW.condT (b := decide ((a1.size : Int) > 24)) rfl c1_ ?_
  refine AW.sub (Sub.bool 11 (b := decide ((a1.size : Int) > 24)) rfl c1_) ?_
  refine AW.sub (S' := mk 50 [1000] [(0, .ptr 1000 0 0), (1, .d (.lit (.string a1))), (2, .d (.lit (.int .i64 a2))), (11, .d (.lit (.bool true)))] [(1000, some (.box [.ref 25000 0 a0.entries.length, .ref 25001 0 a0.savepoints.length])), (25000, some (.arr 30 2 (a0.entries.map cS30))), (25001, some (.arr 22 1 (a0.savepoints.map (cL cS30))))]) (by simp; exact Sub.table (by simp) (by simp)) ?_
  refine AW.seqR ?_
  refine Chain.runK [] 1 fun K hK => ?_; simp; refine hK _ _ ?_; clear hK K
  refine Chain.sub (S' := mk 50 [1000] [(6, .d (.lit (.int .i64 2)))] [(1000, some (.box [.ref 25000 0 a0.entries.length, .ref 25001 0 a0.savepoints.length])), (25000, some (.arr 30 2 (a0.entries.map cS30))), (25001, some (.arr 22 1 (a0.savepoints.map (cL cS30))))]) Sub.tt ?_
  refine Chain.nil ?_
  refine AW.ret ?_
  cases h
  refine thenQ_pass (by simp) ?_
  exact FinF.ret (by simp) (by simp)
 ·have c1_ : decide ((a1.size : Int) > 24) = false := decide_eq_false c1
  refine AW.condF (b := decide ((a1.size : Int) > 24)) rfl c1_ ?_
  refine AW.sub (Sub.bool 11 (b := decide ((a1.size : Int) > 24)) rfl c1_) ?_
  refine AW.sub (S' := mk 50 [1000] [(0, .ptr 1000 0 0), (1, .d (.lit (.string a1))), (2, .d (.lit (.int .i64 a2))), (11, .d (.lit (.bool false)))] [(1000, some (.box [.ref 25000 0 a0.entries.length, .ref 25001 0 a0.savepoints.length])), (25000, some (.arr 30 2 (a0.entries.map cS30))), (25001, some (.arr 22 1 (a0.savepoints.map (cL cS30))))]) (by simp; exact Sub.table (by simp) (by simp)) ?_
  refine AW.skip ?_
  refine thenQ_normal ?_
  refine AW.seqR ?_
  refine Chain.runK [] 2 fun K hK => ?_; simp; refine hK _ _ ?_; clear hK K
  refine Chain.sub (S' := mk 50 [1000] [(0, .ptr 1000 0 0), (1, .d (.lit (.string a1))), (2, .d (.lit (.int .i64 a2))), (13, .ptr 1000 0 0), (14, .d (.lit (.string a1)))] [(1000, some (.box [.ref 25000 0 a0.entries.length, .ref 25001 0 a0.savepoints.length])), (25000, some (.arr 30 2 (a0.entries.map cS30))), (25001, some (.arr 22 1 (a0.savepoints.map (cL cS30))))]) Sub.tt ?_
  replace h := bsome h; obtain ⟨r2, hr2, h⟩ := h
  refine Chain.callL (d := 15) (p14 N a0 a1 r2 hr2) (by simp) rfl rfl (by simp <;> rfl) (by simp <;> rfl) ent14 (by simp <;> rfl) ?_
  refine Chain.sub (S' := mk 50 [1000] [(0, .ptr 1000 0 0), (1, .d (.lit (.string a1))), (2, .d (.lit (.int .i64 a2))), (13, .ptr 1000 0 0), (14, .d (.lit (.string a1))), (15, .tup [.d (.lit (.int .i64 r2.1)), .d (.lit (.bool r2.2))])] [(1000, some (.box [.ref 25000 0 a0.entries.length, .ref 25001 0 a0.savepoints.length])), (25000, some (.arr 30 2 (a0.entries.map cS30))), (25001, some (.arr 22 1 (a0.savepoints.map (cL cS30))))]) (by simp; exact Sub.table (by simp) (by simp)) ?_
  refine Chain.runK [] 5 fun K hK => ?_; simp; refine hK _ _ ?_; clear hK K
  refine Chain.sub (S' := mk 50 [1000] [(0, .ptr 1000 0 0), (1, .d (.lit (.string a1))), (2, .d (.lit (.int .i64 a2))), (7, .d (.lit (.int .i64 r2.1))), (8, .d (.lit (.bool r2.2)))] [(1000, some (.box [.ref 25000 0 a0.entries.length, .ref 25001 0 a0.savepoints.length])), (25000, some (.arr 30 2 (a0.entries.map cS30))), (25001, some (.arr 22 1 (a0.savepoints.map (cL cS30))))]) Sub.tt ?_
  refine Chain.nil ?_
  refine AW.seq ?_
  replace h := bsome h; obtain ⟨v4, hj, h⟩ := h
  refine AW.cutR (mk 50 [1000] [(0, .ptr 1000 0 0), (1, .d (.lit (.string a1))), (2, .d (.lit (.int .i64 a2))), (7, .d (.lit (.int .i64 r2.1))), (8, .d (.lit (.bool r2.2))), (27, .d (.lit (.bool v4)))] [(1000, some (.box [.ref 25000 0 a0.entries.length, .ref 25001 0 a0.savepoints.length])), (25000, some (.arr 30 2 (a0.entries.map cS30))), (25001, some (.arr 22 1 (a0.savepoints.map (cL cS30))))]) ?_ ?_
  ·clear h; have h := hj; clear hj
   refine Chain.runK [] 3 fun K hK => ?_; simp; refine hK _ _ ?_; clear hK K
   refine Chain.sub (S' := mk 50 [1000] [(0, .ptr 1000 0 0), (1, .d (.lit (.string a1))), (2, .d (.lit (.int .i64 a2))), (7, .d (.lit (.int .i64 r2.1))), (8, .d (.lit (.bool r2.2))), (20, .d (.lit (.bool (!r2.2))))] [(1000, some (.box [.ref 25000 0 a0.entries.length, .ref 25001 0 a0.savepoints.length])), (25000, some (.arr 30 2 (a0.entries.map cS30))), (25001, some (.arr 22 1 (a0.savepoints.map (cL cS30))))]) Sub.tt ?_
   replace h := isome h; rcases h with ⟨c5, h⟩ | ⟨c5, h⟩
   ·have c5_ : (!r2.2) = true := c5
    refine Chain.sub (Sub.bool 20 (b := (!r2.2)) rfl c5_) ?_
    refine Chain.sub (S' := mk 50 [1000] [(0, .ptr 1000 0 0), (1, .d (.lit (.string a1))), (2, .d (.lit (.int .i64 a2))), (7, .d (.lit (.int .i64 r2.1))), (8, .d (.lit (.bool r2.2))), (20, .d (.lit (.bool true)))] [(1000, some (.box [.ref 25000 0 a0.entries.length, .ref 25001 0 a0.savepoints.length])), (25000, some (.arr 30 2 (a0.entries.map cS30))), (25001, some (.arr 22 1 (a0.savepoints.map (cL cS30))))]) (by simp; exact Sub.table (by simp) (by simp)) ?_
    refine Chain.runK [] 7 fun K hK => ?_; simp; refine hK _ _ ?_; clear hK K
    refine Chain.sub (S' := mk 50 [1000] [(0, .ptr 1000 0 0), (1, .d (.lit (.string a1))), (2, .d (.lit (.int .i64 a2))), (7, .d (.lit (.int .i64 r2.1))), (8, .d (.lit (.bool r2.2))), (27, .d (.lit (.bool ((a0.entries.length : Int) == 40))))] [(1000, some (.box [.ref 25000 0 a0.entries.length, .ref 25001 0 a0.savepoints.length])), (25000, some (.arr 30 2 (a0.entries.map cS30))), (25001, some (.arr 22 1 (a0.savepoints.map (cL cS30))))]) Sub.tt ?_
    cases h
    exact Chain.nil Sub.tt
   ·have c5_ : (!r2.2) = false := Bool.eq_false_iff.2 c5
    refine Chain.sub (Sub.bool 20 (b := (!r2.2)) rfl c5_) ?_
    refine Chain.sub (S' := mk 50 [1000] [(0, .ptr 1000 0 0), (1, .d (.lit (.string a1))), (2, .d (.lit (.int .i64 a2))), (7, .d (.lit (.int .i64 r2.1))), (8, .d (.lit (.bool r2.2))), (20, .d (.lit (.bool false)))] [(1000, some (.box [.ref 25000 0 a0.entries.length, .ref 25001 0 a0.savepoints.length])), (25000, some (.arr 30 2 (a0.entries.map cS30))), (25001, some (.arr 22 1 (a0.savepoints.map (cL cS30))))]) (by simp; exact Sub.table (by simp) (by simp)) ?_
    refine Chain.runK [] 7 fun K hK => ?_; simp; refine hK _ _ ?_; clear hK K
    refine Chain.sub (S' := mk 50 [1000] [(0, .ptr 1000 0 0), (1, .d (.lit (.string a1))), (2, .d (.lit (.int .i64 a2))), (7, .d (.lit (.int .i64 r2.1))), (8, .d (.lit (.bool r2.2))), (27, .d (.lit (.bool false)))] [(1000, some (.box [.ref 25000 0 a0.entries.length, .ref 25001 0 a0.savepoints.length])), (25000, some (.arr 30 2 (a0.entries.map cS30))), (25001, some (.arr 22 1 (a0.savepoints.map (cL cS30))))]) Sub.tt ?_
    cases h
    exact Chain.nil Sub.tt
  ·clear hj
   replace h := isome h; rcases h with ⟨c6, h⟩ | ⟨c6, h⟩
   ·have c6_ : v4 = true := c6
    refine AW.condT (b := v4) rfl c6_ ?_
    refine AW.sub (Sub.bool 27 (b := v4) rfl c6_) ?_
    refine AW.sub (S' := mk 50 [1000] [(0, .ptr 1000 0 0), (1, .d (.lit (.string a1))), (2, .d (.lit (.int .i64 a2))), (7, .d (.lit (.int .i64 r2.1))), (8, .d (.lit (.bool r2.2))), (27, .d (.lit (.bool true)))] [(1000, some (.box [.ref 25000 0 a0.entries.length, .ref 25001 0 a0.savepoints.length])), (25000, some (.arr 30 2 (a0.entries.map cS30))), (25001, some (.arr 22 1 (a0.savepoints.map (cL cS30))))]) (by simp; exact Sub.table (by simp) (by simp)) ?_
    refine AW.seqR ?_
    refine Chain.runK [] 1 fun K hK => ?_; simp; refine hK _ _ ?_; clear hK K
    refine Chain.sub (S' := mk 50 [1000] [(6, .d (.lit (.int .i64 18)))] [(1000, some (.box [.ref 25000 0 a0.entries.length, .ref 25001 0 a0.savepoints.length])), (25000, some (.arr 30 2 (a0.entries.map cS30))), (25001, some (.arr 22 1 (a0.savepoints.map (cL cS30))))]) Sub.tt ?_
    refine Chain.nil ?_
    refine AW.ret ?_
    cases h
    refine thenQ_pass (by simp) ?_
    exact FinF.ret (by simp) (by simp)
   ·have c6_ : v4 = false := Bool.eq_false_iff.2 c6
    refine AW.condF (b := v4) rfl c6_ ?_
    refine AW.sub (Sub.bool 27 (b := v4) rfl c6_) ?_
    refine AW.sub (S' := mk 50 [1000] [(0, .ptr 1000 0 0), (1, .d (.lit (.string a1))), (2, .d (.lit (.int .i64 a2))), (7, .d (.lit (.int .i64 r2.1))), (8, .d (.lit (.bool r2.2))), (27, .d (.lit (.bool false)))] [(1000, some (.box [.ref 25000 0 a0.entries.length, .ref 25001 0 a0.savepoints.length])), (25000, some (.arr 30 2 (a0.entries.map cS30))), (25001, some (.arr 22 1 (a0.savepoints.map (cL cS30))))]) (by simp; exact Sub.table (by simp) (by simp)) ?_
    refine AW.skip ?_
    refine thenQ_normal ?_
    refine AW.seq ?_
    refine AW.seqR ?_
    refine Chain.runK [] 1 fun K hK => ?_; simp; refine hK _ _ ?_; clear hK K
    refine Chain.sub (S' := mk 50 [1000] [(0, .ptr 1000 0 0), (1, .d (.lit (.string a1))), (2, .d (.lit (.int .i64 a2))), (7, .d (.lit (.int .i64 r2.1))), (28, .d (.lit (.bool r2.2)))] [(1000, some (.box [.ref 25000 0 a0.entries.length, .ref 25001 0 a0.savepoints.length])), (25000, some (.arr 30 2 (a0.entries.map cS30))), (25001, some (.arr 22 1 (a0.savepoints.map (cL cS30))))]) Sub.tt ?_
    refine Chain.nil ?_
    replace h := isome h; rcases h with ⟨c7, h⟩ | ⟨c7, h⟩
    ·have c7_ : r2.2 = true := c7
     refine AW.condT (b := r2.2) rfl c7_ ?_
     refine AW.sub (Sub.bool 28 (b := r2.2) rfl c7_) ?_
     refine AW.sub (S' := mk 50 [1000] [(0, .ptr 1000 0 0), (1, .d (.lit (.string a1))), (2, .d (.lit (.int .i64 a2))), (7, .d (.lit (.int .i64 r2.1))), (28, .d (.lit (.bool true)))] [(1000, some (.box [.ref 25000 0 a0.entries.length, .ref 25001 0 a0.savepoints.length])), (25000, some (.arr 30 2 (a0.entries.map cS30))), (25001, some (.arr 22 1 (a0.savepoints.map (cL cS30))))]) (by simp; exact Sub.table (by simp) (by simp)) ?_
     refine AW.region ?_
     replace h := bsome h; obtain ⟨x8, hx8, h⟩ := h
     obtain ⟨k9, hx8k, hx8, hx8a, hx8b⟩ := idx_some hx8
     replace h := lsome h; obtain ⟨l10, gl10, h⟩ := h
     obtain ⟨hl10, hl10n⟩ := setI_some cS30 gl10 hx8k
     replace hl10 : (a0.entries.map cS30).set k9 [.lit (.string x8.Key), .lit (.int .i64 a2)] = l10.map cS30 := hl10
     clear gl10
     refine Chain.runK [] 9 fun K hK => ?_; simp [hx8, hx8k, hx8a, hx8b, hl10]; refine hK _ _ ?_; clear hK K
     refine Chain.sub (S' := mk 50 [1000] [] [(1000, some (.box [.ref 25000 0 l10.length, .ref 25001 0 a0.savepoints.length])), (25000, some (.arr 30 2 (l10.map cS30))), (25001, some (.arr 22 1 (a0.savepoints.map (cL cS30))))]) (Sub.table (by simp) (by simp [hl10n])) ?_
     refine Chain.nil ?_
     refine thenQ_normal ?_
     refine AW.seqR ?_
     refine Chain.runK [] 1 fun K hK => ?_; simp; refine hK _ _ ?_; clear hK K
     refine Chain.sub (S' := mk 50 [1000] [(6, .d (.lit (.int .i64 0)))] [(1000, some (.box [.ref 25000 0 l10.length, .ref 25001 0 a0.savepoints.length])), (25000, some (.arr 30 2 (l10.map cS30))), (25001, some (.arr 22 1 (a0.savepoints.map (cL cS30))))]) Sub.tt ?_
     refine Chain.nil ?_
     refine AW.ret ?_
     cases h
     exact FinF.ret (by simp) (by simp)
    ·have c7_ : r2.2 = false := Bool.eq_false_iff.2 c7
     refine AW.condF (b := r2.2) rfl c7_ ?_
     refine AW.sub (Sub.bool 28 (b := r2.2) rfl c7_) ?_
     refine AW.sub (S' := mk 50 [1000] [(0, .ptr 1000 0 0), (1, .d (.lit (.string a1))), (2, .d (.lit (.int .i64 a2))), (7, .d (.lit (.int .i64 r2.1))), (28, .d (.lit (.bool false)))] [(1000, some (.box [.ref 25000 0 a0.entries.length, .ref 25001 0 a0.savepoints.length])), (25000, some (.arr 30 2 (a0.entries.map cS30))), (25001, some (.arr 22 1 (a0.savepoints.map (cL cS30))))]) (by simp; exact Sub.table (by simp) (by simp)) ?_
     refine AW.region ?_
     refine Chain.runK [] 10 fun K hK => ?_; simp; refine hK _ _ ?_; clear hK K
     refine Chain.sub (S' := mk 50 [1000] [(37, .ptr 1000 0 0), (41, .ref 25000 0 a0.entries.length), (42, .d (.lit (.int .i64 r2.1))), (46, .ref 46 0 (([(S30.mk a1 a2)] : List S30).length))] [(46, some (.arr 30 2 (([(S30.mk a1 a2)] : List S30).map cS30))), (1000, some (.box [.ref 25000 0 a0.entries.length, .ref 25001 0 a0.savepoints.length])), (25000, some (.arr 30 2 (a0.entries.map cS30))), (25001, some (.arr 22 1 (a0.savepoints.map (cL cS30))))]) Sub.tt ?_
     replace h := bsome h; obtain ⟨l11, hl11, h⟩ := h
     refine Chain.callF (p16 N a0.entries r2.1 ([(S30.mk a1 a2)] : List S30) l11 hl11) [(25000, 1000), (46, 1001)] [] [(1000, 25000)] [(25000, .arr 30 2 (l11.map cS30))] (.ref 25000 0 l11.length) (by simp) rfl (by simp <;> rfl) (by simp) (by simp) (by simp) (by simp) (by simp) ent16 (by simp) (by simp) (by simp) (by simp) (by simp) (by simp) ?_
     refine Chain.sub (S' := mk 50 [1000] [(37, .ptr 1000 0 0), (42, .d (.lit (.int .i64 r2.1))), (47, .ref 25000 0 l11.length)] [(1000, some (.box [.hole, .ref 25001 0 a0.savepoints.length])), (25000, some (.arr 30 2 (l11.map cS30))), (25001, some (.arr 22 1 (a0.savepoints.map (cL cS30))))]) (by simp; exact Sub.table (by simp) (by simp)) ?_
     refine Chain.runK [] 3 fun K hK => ?_; simp; refine hK _ _ ?_; clear hK K
     refine Chain.sub (S' := mk 50 [1000] [] [(1000, some (.box [.ref 25000 0 l11.length, .ref 25001 0 a0.savepoints.length])), (25000, some (.arr 30 2 (l11.map cS30))), (25001, some (.arr 22 1 (a0.savepoints.map (cL cS30))))]) Sub.tt ?_
     refine Chain.nil ?_
     refine thenQ_normal ?_
     refine AW.seqR ?_
     refine Chain.runK [] 1 fun K hK => ?_; simp; refine hK _ _ ?_; clear hK K
     refine Chain.sub (S' := mk 50 [1000] [(6, .d (.lit (.int .i64 0)))] [(1000, some (.box [.ref 25000 0 l11.length, .ref 25001 0 a0.savepoints.length])), (25000, some (.arr 30 2 (l11.map cS30))), (25001, some (.arr 22 1 (a0.savepoints.map (cL cS30))))]) Sub.tt ?_
     refine Chain.nil ?_
     refine AW.ret ?_
     cases h
     exact FinF.ret (by simp) (by simp)

/-- stemma/savepoint.New -/
def d4 (N : Nat) (a0 : (List S30)) : Option ((Option S47) × Int) :=
 bindO (β := ((List S30) × (List (List S30)))) (ρ := ((Option S47) × Int)) (
  iterN (σ := ((List S30) × (List (List S30)) × Int)) (ρ := (Out ((List S30) × (List (List S30))) ((Option S47) × Int))) (fun ((l16, l17, v18) : ((List S30) × (List (List S30)) × Int)) =>
   if v18 < (a0.length : Int) then (
    (idx a0 v18).bind fun x57 =>
    Option.bind (α := Bool) (
     if v18 > 0 then (
      (chkI (v18 - 1)).bind fun v65 =>
      (idx a0 v65).bind fun x66 =>
      some (!Op.bytesLess x66.Key.toList x57.Key.toList)
     ) else
     some false
    ) fun (v63 : Bool) =>
    if v63 = true then (
     some (.inr (.ret (none, 6)))
    ) else
    (d8 N (S47.mk l16 l17) x57.Key x57.Value).bind fun r69 =>
    if (r69.2 != 0) then (
     some (.inr (.ret (none, r69.2)))
    ) else
    (chkI (v18 + 1)).bind fun v71 =>
    some (.inl (r69.1.entries, r69.1.savepoints, v71))
   ) else
   some (.inr (.go (l16, l17)))
  ) N (([] : List S30), ([] : List (List S30)), 0)
 ) fun ((l54, l55) : ((List S30) × (List (List S30)))) =>
 some ((some (S47.mk l54 l55)), 0)
set_option maxRecDepth 100000 in
set_option maxHeartbeats 4000000 in
theorem p4 (N : Nat) (a0 : (List S30)) (r : ((Option S47) × Int)) (h : d4 N a0 = some r) : FunM Try.prog 4 [.d (.sl (a0.map cS30))] [] [] (.tup [(match (generalizing := false) r.1 with | none => V.d (.lit (.pointer none)) | some _ => V.ptr 1000 0 0), .d (.lit (.int .i64 r.2))]) ([] ++ (match (generalizing := false) r.1 with | none => [] | some o => [(1000, (.box [.ref 25000 0 o.entries.length, .ref 25001 0 o.savepoints.length])), (25000, (.arr 30 2 (o.entries.map cS30))), (25001, (.arr 22 1 (o.savepoints.map (cL cS30))))])) := by
 unfold d4 at h
 refine FunM.enter 41 [(0, .d (.sl (a0.map cS30)))] Try.func4 rfl (of_decide_eq_true rfl) rfl rfl ?_
 refine AW.seqR ?_
 refine Chain.runK [] 2 fun K hK => ?_; simp; refine hK _ _ ?_; clear hK K
 refine Chain.sub (S' := mk 41 [] [(0, .d (.sl (a0.map cS30)))] []) Sub.tt ?_
 refine Chain.nil ?_
 refine AW.seqR ?_
 refine Chain.runK [] 2 fun K hK => ?_; simp; refine hK _ _ ?_; clear hK K
 refine Chain.sub (S' := mk 41 [] [(0, .d (.sl (a0.map cS30))), (9, .ptr 9 0 0)] [(9, some (.box [.d (.lit (.slice none 0 0)), .d (.lit (.slice none 0 0))]))]) Sub.tt ?_
 refine Chain.sub (Sub.nilOwnBox (bid := 9) (j := 0) (id := 5180) (T := 30) (n := 2) rfl rfl (by decide) rfl (by decide)) ?_
 refine Chain.sub (S' := mk 41 [] [(0, .d (.sl (a0.map cS30))), (9, .ptr 9 0 0)] [(9, some (.box [.ref 5180 0 (([] : List S30).length), .d (.lit (.slice none 0 0))])), (5180, some (.arr 30 2 (([] : List S30).map cS30)))]) (by simp; exact Sub.table (by simp) (by simp)) ?_
 refine Chain.sub (Sub.nilOwnBox (bid := 9) (j := 1) (id := 5181) (T := 22) (n := 1) rfl rfl (by decide) rfl (by decide)) ?_
 refine Chain.sub (S' := mk 41 [] [(0, .d (.sl (a0.map cS30))), (9, .ptr 9 0 0)] [(9, some (.box [.ref 5180 0 (([] : List S30).length), .ref 5181 0 (([] : List (List S30)).length)])), (5180, some (.arr 30 2 (([] : List S30).map cS30))), (5181, some (.arr 22 1 (([] : List (List S30)).map (cL cS30))))]) (by simp; exact Sub.table (by simp) (by simp)) ?_
 refine Chain.runK [] 1 fun K hK => ?_; simp; refine hK _ _ ?_; clear hK K
 refine Chain.sub (S' := mk 41 [] [(0, .d (.sl (a0.map cS30))), (4, .ptr 9 0 0)] [(9, some (.box [.ref 5180 0 (([] : List S30).length), .ref 5181 0 (([] : List (List S30)).length)])), (5180, some (.arr 30 2 (([] : List S30).map cS30))), (5181, some (.arr 22 1 (([] : List (List S30)).map (cL cS30))))]) Sub.tt ?_
 refine Chain.nil ?_
 refine AW.seq ?_
 refine AW.seqR ?_
 refine Chain.runK [] 3 fun K hK => ?_; simp; refine hK _ _ ?_; clear hK K
 refine Chain.sub (S' := mk 41 [] [(0, .d (.sl (a0.map cS30))), (4, .ptr 9 0 0), (10, .d (.sl (a0.map cS30))), (11, .d (.lit (.int .i64 (a0.length : Int)))), (12, .d (.lit (.int .i64 0)))] [(9, some (.box [.ref 5180 0 (([] : List S30).length), .ref 5181 0 (([] : List (List S30)).length)])), (5180, some (.arr 30 2 (([] : List S30).map cS30))), (5181, some (.arr 22 1 (([] : List (List S30)).map (cL cS30))))]) Sub.tt ?_
 refine Chain.nil ?_
 refine AW.lastJ (fun ((l54, l55) : ((List S30) × (List (List S30)))) => mk 41 [] [(4, .ptr 9 0 0)] [(9, some (.box [.ref 5180 0 l54.length, .ref 5181 0 l55.length])), (5180, some (.arr 30 2 (l54.map cS30))), (5181, some (.arr 22 1 (l55.map (cL cS30))))]) h ?_ ?_ <;> clear h
 ·intro o h
  refine AW.block ?_
  refine AW.iter (fun ((l16, l17, v18) : ((List S30) × (List (List S30)) × Int)) => mk 41 [] [(0, .d (.sl (a0.map cS30))), (4, .ptr 9 0 0), (10, .d (.sl (a0.map cS30))), (11, .d (.lit (.int .i64 (a0.length : Int)))), (12, .d (.lit (.int .i64 v18)))] [(9, some (.box [.ref 5180 0 l16.length, .ref 5181 0 l17.length])), (5180, some (.arr 30 2 (l16.map cS30))), (5181, some (.arr 22 1 (l17.map (cL cS30))))]) h Sub.tt ?_
  clear h
  rintro ⟨l16, l17, v18⟩ x h
  dsimp only at h ⊢
  refine AW.seqR ?_
  refine Chain.runK [] 1 fun K hK => ?_; simp; refine hK _ _ ?_; clear hK K
  refine Chain.sub (S' := mk 41 [] [(0, .d (.sl (a0.map cS30))), (4, .ptr 9 0 0), (10, .d (.sl (a0.map cS30))), (11, .d (.lit (.int .i64 (a0.length : Int)))), (12, .d (.lit (.int .i64 v18))), (13, .d (.lit (.bool (decide (v18 < (a0.length : Int))))))] [(9, some (.box [.ref 5180 0 l16.length, .ref 5181 0 l17.length])), (5180, some (.arr 30 2 (l16.map cS30))), (5181, some (.arr 22 1 (l17.map (cL cS30))))]) Sub.tt ?_
  refine Chain.nil ?_
  refine AW.seq ?_
  replace h := isome h; rcases h with ⟨c56, h⟩ | ⟨c56, h⟩
  ·have c56_ : decide (v18 < (a0.length : Int)) = true := decide_eq_true c56
   refine AW.condT (b := decide (v18 < (a0.length : Int))) rfl c56_ ?_
   refine AW.sub (Sub.bool 13 (b := decide (v18 < (a0.length : Int))) rfl c56_) ?_
   refine AW.sub (S' := mk 41 [] [(0, .d (.sl (a0.map cS30))), (4, .ptr 9 0 0), (10, .d (.sl (a0.map cS30))), (11, .d (.lit (.int .i64 (a0.length : Int)))), (12, .d (.lit (.int .i64 v18))), (13, .d (.lit (.bool true)))] [(9, some (.box [.ref 5180 0 l16.length, .ref 5181 0 l17.length])), (5180, some (.arr 30 2 (l16.map cS30))), (5181, some (.arr 22 1 (l17.map (cL cS30))))]) (by simp; exact Sub.table (by simp) (by simp)) ?_
   refine AW.skip ?_
   refine thenQ_normal ?_
   refine AW.seq ?_
   refine AW.block ?_
   refine AW.seqR ?_
   replace h := bsome h; obtain ⟨x57, hx57, h⟩ := h
   obtain ⟨k58, hx57k, hx57, hx57a, hx57b⟩ := idx_some hx57
   refine Chain.runK [] 6 fun K hK => ?_; simp [hx57, hx57k, hx57a]; refine hK _ _ ?_; clear hK K
   refine Chain.sub (S' := mk 41 [] [(0, .d (.sl (a0.map cS30))), (4, .ptr 9 0 0), (5, .d (.lit (.int .i64 v18))), (6, .ptr 6 0 0), (10, .d (.sl (a0.map cS30))), (11, .d (.lit (.int .i64 (a0.length : Int)))), (12, .d (.lit (.int .i64 v18)))] [(6, some (.box [.d (.lit (.string x57.Key)), .d (.lit (.int .i64 x57.Value))])), (9, some (.box [.ref 5180 0 l16.length, .ref 5181 0 l17.length])), (5180, some (.arr 30 2 (l16.map cS30))), (5181, some (.arr 22 1 (l17.map (cL cS30))))]) Sub.tt ?_
   refine Chain.nil ?_
   refine AW.seq ?_
   replace h := bsome h; obtain ⟨v63, hj, h⟩ := h
   refine AW.cutQ (by kernel_rfl) (by kernel_rfl) (mk 41 [] [(0, .d (.sl (a0.map cS30))), (4, .ptr 9 0 0), (6, .ptr 6 0 0), (10, .d (.sl (a0.map cS30))), (11, .d (.lit (.int .i64 (a0.length : Int)))), (12, .d (.lit (.int .i64 v18))), (29, .d (.lit (.bool v63)))] [(6, some (.box [.d (.lit (.string x57.Key)), .d (.lit (.int .i64 x57.Value))])), (9, some (.box [.ref 5180 0 l16.length, .ref 5181 0 l17.length])), (5180, some (.arr 30 2 (l16.map cS30))), (5181, some (.arr 22 1 (l17.map (cL cS30))))]) ?_ ?_
   ·clear h; have h := hj; clear hj
    refine Chain.runQ 3 fun K hK => ?_; simp; refine hK _ _ ?_; clear hK K
    refine Chain.sub (S' := mk 41 [] [(0, .d (.sl (a0.map cS30))), (4, .ptr 9 0 0), (5, .d (.lit (.int .i64 v18))), (6, .ptr 6 0 0), (10, .d (.sl (a0.map cS30))), (11, .d (.lit (.int .i64 (a0.length : Int)))), (12, .d (.lit (.int .i64 v18))), (19, .d (.lit (.bool (decide (v18 > 0)))))] [(6, some (.box [.d (.lit (.string x57.Key)), .d (.lit (.int .i64 x57.Value))])), (9, some (.box [.ref 5180 0 l16.length, .ref 5181 0 l17.length])), (5180, some (.arr 30 2 (l16.map cS30))), (5181, some (.arr 22 1 (l17.map (cL cS30))))]) Sub.tt ?_
    replace h := isome h; rcases h with ⟨c64, h⟩ | ⟨c64, h⟩
    ·have c64_ : decide (v18 > 0) = true := decide_eq_true c64
     refine Chain.sub (Sub.bool 19 (b := decide (v18 > 0)) rfl c64_) ?_
     refine Chain.sub (S' := mk 41 [] [(0, .d (.sl (a0.map cS30))), (4, .ptr 9 0 0), (5, .d (.lit (.int .i64 v18))), (6, .ptr 6 0 0), (10, .d (.sl (a0.map cS30))), (11, .d (.lit (.int .i64 (a0.length : Int)))), (12, .d (.lit (.int .i64 v18))), (19, .d (.lit (.bool true)))] [(6, some (.box [.d (.lit (.string x57.Key)), .d (.lit (.int .i64 x57.Value))])), (9, some (.box [.ref 5180 0 l16.length, .ref 5181 0 l17.length])), (5180, some (.arr 30 2 (l16.map cS30))), (5181, some (.arr 22 1 (l17.map (cL cS30))))]) (by simp; exact Sub.table (by simp) (by simp)) ?_
     replace h := bsome h; obtain ⟨v65, hv65, h⟩ := h
     have hv65 := chkI_some hv65
     replace h := bsome h; obtain ⟨x66, hx66, h⟩ := h
     obtain ⟨k67, hx66k, hx66, hx66a, hx66b⟩ := idx_some hx66
     refine Chain.runQ 10 fun K hK => ?_; simp [hv65, hx66, hx66k, hx66a]; refine hK _ _ ?_; clear hK K
     refine Chain.sub (S' := mk 41 [] [(0, .d (.sl (a0.map cS30))), (4, .ptr 9 0 0), (6, .ptr 6 0 0), (10, .d (.sl (a0.map cS30))), (11, .d (.lit (.int .i64 (a0.length : Int)))), (12, .d (.lit (.int .i64 v18))), (20, .d (.sl (a0.map cS30))), (21, .d (.lit (.int .i64 v18))), (22, .d (.lit (.int .i64 v65))), (23, .d (.pim [.lit (.string x66.Key), .lit (.int .i64 x66.Value)])), (24, .d (.pim [.lit (.string x66.Key), .lit (.int .i64 x66.Value)])), (25, .d (.lit (.string x66.Key))), (26, .ptr 6 0 0), (27, .d (.lit (.string x57.Key))), (28, .d (.lit (.bool (!Op.bytesLess x66.Key.toList x57.Key.toList)))), (29, .d (.lit (.bool (!Op.bytesLess x66.Key.toList x57.Key.toList))))] [(6, some (.box [.d (.lit (.string x57.Key)), .d (.lit (.int .i64 x57.Value))])), (9, some (.box [.ref 5180 0 l16.length, .ref 5181 0 l17.length])), (5180, some (.arr 30 2 (l16.map cS30))), (5181, some (.arr 22 1 (l17.map (cL cS30))))]) Sub.tt ?_
     cases h
     exact Chain.nil Sub.tt
    ·have c64_ : decide (v18 > 0) = false := decide_eq_false c64
     refine Chain.sub (Sub.bool 19 (b := decide (v18 > 0)) rfl c64_) ?_
     refine Chain.sub (S' := mk 41 [] [(0, .d (.sl (a0.map cS30))), (4, .ptr 9 0 0), (5, .d (.lit (.int .i64 v18))), (6, .ptr 6 0 0), (10, .d (.sl (a0.map cS30))), (11, .d (.lit (.int .i64 (a0.length : Int)))), (12, .d (.lit (.int .i64 v18))), (19, .d (.lit (.bool false)))] [(6, some (.box [.d (.lit (.string x57.Key)), .d (.lit (.int .i64 x57.Value))])), (9, some (.box [.ref 5180 0 l16.length, .ref 5181 0 l17.length])), (5180, some (.arr 30 2 (l16.map cS30))), (5181, some (.arr 22 1 (l17.map (cL cS30))))]) (by simp; exact Sub.table (by simp) (by simp)) ?_
     refine Chain.runQ 10 fun K hK => ?_; simp; refine hK _ _ ?_; clear hK K
     refine Chain.sub (S' := mk 41 [] [(0, .d (.sl (a0.map cS30))), (4, .ptr 9 0 0), (6, .ptr 6 0 0), (10, .d (.sl (a0.map cS30))), (11, .d (.lit (.int .i64 (a0.length : Int)))), (12, .d (.lit (.int .i64 v18))), (20, .tup []), (21, .tup []), (22, .tup []), (23, .tup []), (24, .tup []), (25, .tup []), (26, .tup []), (27, .tup []), (28, .tup []), (29, .d (.lit (.bool false)))] [(6, some (.box [.d (.lit (.string x57.Key)), .d (.lit (.int .i64 x57.Value))])), (9, some (.box [.ref 5180 0 l16.length, .ref 5181 0 l17.length])), (5180, some (.arr 30 2 (l16.map cS30))), (5181, some (.arr 22 1 (l17.map (cL cS30))))]) Sub.tt ?_
     cases h
     exact Chain.nil Sub.tt
   ·clear hj
    replace h := isome h; rcases h with ⟨c68, h⟩ | ⟨c68, h⟩
    ·have c68_ : v63 = true := c68
     refine AW.condT (b := v63) rfl c68_ ?_
     refine AW.sub (Sub.bool 29 (b := v63) rfl c68_) ?_
     refine AW.sub (S' := mk 41 [] [(0, .d (.sl (a0.map cS30))), (4, .ptr 9 0 0), (6, .ptr 6 0 0), (10, .d (.sl (a0.map cS30))), (11, .d (.lit (.int .i64 (a0.length : Int)))), (12, .d (.lit (.int .i64 v18))), (29, .d (.lit (.bool true)))] [(6, some (.box [.d (.lit (.string x57.Key)), .d (.lit (.int .i64 x57.Value))])), (9, some (.box [.ref 5180 0 l16.length, .ref 5181 0 l17.length])), (5180, some (.arr 30 2 (l16.map cS30))), (5181, some (.arr 22 1 (l17.map (cL cS30))))]) (by simp; exact Sub.table (by simp) (by simp)) ?_
     refine AW.seqR ?_
     refine Chain.runK [] 2 fun K hK => ?_; simp; refine hK _ _ ?_; clear hK K
     refine Chain.sub (S' := mk 41 [] [(2, .d (.lit (.pointer none))), (3, .d (.lit (.int .i64 6)))] []) Sub.tt ?_
     refine Chain.nil ?_
     refine AW.ret ?_
     cases h
     refine thenQ_pass (by simp) ?_
     refine blockQ.ret ?_
     refine thenQ_pass (by simp) ?_
     refine PostI.out (by simp) ?_
     rintro rfl
     refine blockQ.ret ?_
     refine PostJ.out (by simp) ?_
     rintro rfl
     refine thenQ_pass (by simp) ?_
     exact FinF.ret (by simp) (by simp)
    ·have c68_ : v63 = false := Bool.eq_false_iff.2 c68
     refine AW.condF (b := v63) rfl c68_ ?_
     refine AW.sub (Sub.bool 29 (b := v63) rfl c68_) ?_
     refine AW.sub (S' := mk 41 [] [(0, .d (.sl (a0.map cS30))), (4, .ptr 9 0 0), (6, .ptr 6 0 0), (10, .d (.sl (a0.map cS30))), (11, .d (.lit (.int .i64 (a0.length : Int)))), (12, .d (.lit (.int .i64 v18))), (29, .d (.lit (.bool false)))] [(6, some (.box [.d (.lit (.string x57.Key)), .d (.lit (.int .i64 x57.Value))])), (9, some (.box [.ref 5180 0 l16.length, .ref 5181 0 l17.length])), (5180, some (.arr 30 2 (l16.map cS30))), (5181, some (.arr 22 1 (l17.map (cL cS30))))]) (by simp; exact Sub.table (by simp) (by simp)) ?_
     refine AW.skip ?_
     refine thenQ_normal ?_
     refine AW.seqR ?_
     refine Chain.runK [] 5 fun K hK => ?_; simp; refine hK _ _ ?_; clear hK K
     refine Chain.sub (S' := mk 41 [] [(0, .d (.sl (a0.map cS30))), (4, .ptr 9 0 0), (10, .d (.sl (a0.map cS30))), (11, .d (.lit (.int .i64 (a0.length : Int)))), (12, .d (.lit (.int .i64 v18))), (30, .ptr 9 0 0), (32, .d (.lit (.string x57.Key))), (34, .d (.lit (.int .i64 x57.Value)))] [(9, some (.box [.ref 5180 0 l16.length, .ref 5181 0 l17.length])), (5180, some (.arr 30 2 (l16.map cS30))), (5181, some (.arr 22 1 (l17.map (cL cS30))))]) Sub.tt ?_
     replace h := bsome h; obtain ⟨r69, hr69, h⟩ := h
     refine Chain.callF (p8 N (S47.mk l16 l17) x57.Key x57.Value r69 hr69) [(9, 1000), (5180, 25000), (5181, 25001)] [9] [(1000, 9), (25000, 5180), (25001, 5181)] [(9, (.box [.ref 5180 0 r69.1.entries.length, .ref 5181 0 r69.1.savepoints.length])), (5180, (.arr 30 2 (r69.1.entries.map cS30))), (5181, (.arr 22 1 (r69.1.savepoints.map (cL cS30))))] (.d (.lit (.int .i64 r69.2))) (by simp) rfl (by simp <;> rfl) (by simp) (by simp) (by simp) (by simp) (by simp) ent8 (by simp) (by simp) (by simp) (by simp) (by simp) (by simp) ?_
     refine Chain.sub (S' := mk 41 [] [(0, .d (.sl (a0.map cS30))), (4, .ptr 9 0 0), (10, .d (.sl (a0.map cS30))), (11, .d (.lit (.int .i64 (a0.length : Int)))), (12, .d (.lit (.int .i64 v18))), (30, .ptr 9 0 0), (32, .d (.lit (.string x57.Key))), (34, .d (.lit (.int .i64 x57.Value))), (35, .d (.lit (.int .i64 r69.2)))] [(9, some (.box [.ref 5180 0 r69.1.entries.length, .ref 5181 0 r69.1.savepoints.length])), (5180, some (.arr 30 2 (r69.1.entries.map cS30))), (5181, some (.arr 22 1 (r69.1.savepoints.map (cL cS30))))]) (by simp; exact Sub.table (by simp) (by simp)) ?_
     refine Chain.runK [] 1 fun K hK => ?_; simp; refine hK _ _ ?_; clear hK K
     refine Chain.sub (S' := mk 41 [] [(0, .d (.sl (a0.map cS30))), (4, .ptr 9 0 0), (7, .d (.lit (.int .i64 r69.2))), (10, .d (.sl (a0.map cS30))), (11, .d (.lit (.int .i64 (a0.length : Int)))), (12, .d (.lit (.int .i64 v18)))] [(9, some (.box [.ref 5180 0 r69.1.entries.length, .ref 5181 0 r69.1.savepoints.length])), (5180, some (.arr 30 2 (r69.1.entries.map cS30))), (5181, some (.arr 22 1 (r69.1.savepoints.map (cL cS30))))]) Sub.tt ?_
     refine Chain.nil ?_
     refine AW.seqR ?_
     refine Chain.runK [] 2 fun K hK => ?_; simp; refine hK _ _ ?_; clear hK K
     refine Chain.sub (S' := mk 41 [] [(0, .d (.sl (a0.map cS30))), (4, .ptr 9 0 0), (7, .d (.lit (.int .i64 r69.2))), (10, .d (.sl (a0.map cS30))), (11, .d (.lit (.int .i64 (a0.length : Int)))), (12, .d (.lit (.int .i64 v18))), (37, .d (.lit (.bool (r69.2 != 0))))] [(9, some (.box [.ref 5180 0 r69.1.entries.length, .ref 5181 0 r69.1.savepoints.length])), (5180, some (.arr 30 2 (r69.1.entries.map cS30))), (5181, some (.arr 22 1 (r69.1.savepoints.map (cL cS30))))]) Sub.tt ?_
     refine Chain.nil ?_
     replace h := isome h; rcases h with ⟨c70, h⟩ | ⟨c70, h⟩
     ·have c70_ : (r69.2 != 0) = true := c70
      refine AW.condT (b := (r69.2 != 0)) rfl c70_ ?_
      refine AW.sub (Sub.bool 37 (b := (r69.2 != 0)) rfl c70_) ?_
      refine AW.sub (S' := mk 41 [] [(0, .d (.sl (a0.map cS30))), (4, .ptr 9 0 0), (7, .d (.lit (.int .i64 r69.2))), (10, .d (.sl (a0.map cS30))), (11, .d (.lit (.int .i64 (a0.length : Int)))), (12, .d (.lit (.int .i64 v18))), (37, .d (.lit (.bool true)))] [(9, some (.box [.ref 5180 0 r69.1.entries.length, .ref 5181 0 r69.1.savepoints.length])), (5180, some (.arr 30 2 (r69.1.entries.map cS30))), (5181, some (.arr 22 1 (r69.1.savepoints.map (cL cS30))))]) (by simp; exact Sub.table (by simp) (by simp)) ?_
      refine AW.seqR ?_
      refine Chain.runK [] 3 fun K hK => ?_; simp; refine hK _ _ ?_; clear hK K
      refine Chain.sub (S' := mk 41 [] [(2, .d (.lit (.pointer none))), (3, .d (.lit (.int .i64 r69.2)))] []) Sub.tt ?_
      refine Chain.nil ?_
      refine AW.ret ?_
      cases h
      refine blockQ.ret ?_
      refine thenQ_pass (by simp) ?_
      refine PostI.out (by simp) ?_
      rintro rfl
      refine blockQ.ret ?_
      refine PostJ.out (by simp) ?_
      rintro rfl
      refine thenQ_pass (by simp) ?_
      exact FinF.ret (by simp) (by simp)
     ·have c70_ : (r69.2 != 0) = false := Bool.eq_false_iff.2 c70
      refine AW.condF (b := (r69.2 != 0)) rfl c70_ ?_
      refine AW.sub (Sub.bool 37 (b := (r69.2 != 0)) rfl c70_) ?_
      refine AW.sub (S' := mk 41 [] [(0, .d (.sl (a0.map cS30))), (4, .ptr 9 0 0), (7, .d (.lit (.int .i64 r69.2))), (10, .d (.sl (a0.map cS30))), (11, .d (.lit (.int .i64 (a0.length : Int)))), (12, .d (.lit (.int .i64 v18))), (37, .d (.lit (.bool false)))] [(9, some (.box [.ref 5180 0 r69.1.entries.length, .ref 5181 0 r69.1.savepoints.length])), (5180, some (.arr 30 2 (r69.1.entries.map cS30))), (5181, some (.arr 22 1 (r69.1.savepoints.map (cL cS30))))]) (by simp; exact Sub.table (by simp) (by simp)) ?_
      refine AW.skip ?_
      refine blockQ.normal ?_
      refine thenQ_normal ?_
      refine AW.region ?_
      replace h := bsome h; obtain ⟨v71, hv71, h⟩ := h
      have hv71 := chkI_some hv71
      refine Chain.runK [] 2 fun K hK => ?_; simp [hv71]; refine hK _ _ ?_; clear hK K
      refine Chain.sub (S' := mk 41 [] [(0, .d (.sl (a0.map cS30))), (4, .ptr 9 0 0), (10, .d (.sl (a0.map cS30))), (11, .d (.lit (.int .i64 (a0.length : Int)))), (12, .d (.lit (.int .i64 v71)))] [(9, some (.box [.ref 5180 0 r69.1.entries.length, .ref 5181 0 r69.1.savepoints.length])), (5180, some (.arr 30 2 (r69.1.entries.map cS30))), (5181, some (.arr 22 1 (r69.1.savepoints.map (cL cS30))))]) Sub.tt ?_
      refine Chain.nil ?_
      cases h
      refine PostI.next ?_
      exact Sub.tt
  ·have c56_ : decide (v18 < (a0.length : Int)) = false := decide_eq_false c56
   refine AW.condF (b := decide (v18 < (a0.length : Int))) rfl c56_ ?_
   refine AW.sub (Sub.bool 13 (b := decide (v18 < (a0.length : Int))) rfl c56_) ?_
   refine AW.sub (S' := mk 41 [] [(0, .d (.sl (a0.map cS30))), (4, .ptr 9 0 0), (10, .d (.sl (a0.map cS30))), (11, .d (.lit (.int .i64 (a0.length : Int)))), (12, .d (.lit (.int .i64 v18))), (13, .d (.lit (.bool false)))] [(9, some (.box [.ref 5180 0 l16.length, .ref 5181 0 l17.length])), (5180, some (.arr 30 2 (l16.map cS30))), (5181, some (.arr 22 1 (l17.map (cL cS30))))]) (by simp; exact Sub.table (by simp) (by simp)) ?_
   refine AW.exit ?_
   cases h
   refine thenQ_pass (by simp) ?_
   refine PostI.out (by simp) ?_
   rintro rfl
   refine blockQ.hit ?_
   refine PostJ.next ?_
   exact Sub.tt
 ·rintro ⟨l54, l55⟩ h
  dsimp only at h ⊢
  refine thenQ_normal ?_
  refine AW.seqR ?_
  refine Chain.runK [] 3 fun K hK => ?_; simp; refine hK _ _ ?_; clear hK K
  refine Chain.sub (S' := mk 41 [] [(2, .ptr 9 0 0), (3, .d (.lit (.int .i64 0)))] [(9, some (.box [.ref 5180 0 l54.length, .ref 5181 0 l55.length])), (5180, some (.arr 30 2 (l54.map cS30))), (5181, some (.arr 22 1 (l55.map (cL cS30))))]) Sub.tt ?_
  refine Chain.nil ?_
  refine AW.sub (S' := mk 41 [] [(2, .ptr 1000 0 0), (3, .d (.lit (.int .i64 0)))] [(1000, some (.box [.ref 25000 0 l54.length, .ref 25001 0 l55.length])), (25000, some (.arr 30 2 (l54.map cS30))), (25001, some (.arr 22 1 (l55.map (cL cS30))))]) (Sub.names [(9, 1000), (5180, 25000), (5181, 25001)] (by simp) (by simp) (by simp [back]) (by simp [V.rnm, lk2]) (by simp [back, Blk.rnm, V.rnm, rnmL, lk2])) ?_
  refine AW.ret ?_
  cases h
  exact FinF.ret (by simp) (by simp)

/-- slices.Delete[[]stemma/savepoint.Entry,stemma/savepoint.Entry] -/
def d15 (_ : Nat) (a0 : (List S30)) (a1 a2 : Int) : Option (List S30) := delL a0 a1 a2
theorem p15 (N : Nat) (a0 : (List S30)) (a1 a2 : Int) (r : (List S30)) (h : d15 N a0 a1 a2 = some r) : FunM Try.prog 15 [.ref 1000 0 a0.length, .d (.lit (.int .i64 a1)), .d (.lit (.int .i64 a2))] [(1000, some (.arr 30 2 (a0.map cS30)))] [] (.ref 1000 0 r.length) [(1000, .arr 30 2 (r.map cS30))] := by
 obtain ⟨i, j, rfl, rfl, hij, hj, hrl, hr⟩ := delL_some cS30 h
 have hes : ∀ x ∈ a0.map cS30, x.length = 2 := fun x hx => by
  obtain ⟨y, _, rfl⟩ := List.mem_map.1 hx
  rfl
 rw [hr, hrl]
 have hel : (a0.map cS30).length = a0.length := by simp
 rw [← hel] at hj hrl ⊢
 clear hel h hr hrl
 generalize a0.map cS30 = es at *
 refine FunM.enter 33 [(0, .ref 1000 0 es.length), (1, .d (.lit (.int .i64 i))), (2, .d (.lit (.int .i64 j)))] Try.func15 rfl (of_decide_eq_true rfl) rfl rfl ?_
 refine AW.goR [] 1 fun K hK => ?_; simp; refine hK _ ?_; clear hK K
 refine AW.seqR ?_
 refine Chain.runK [] 5 fun K hK => ?_; simp; refine hK _ _ ?_; clear hK K
 have hjn : (j : Int) ≤ es.length := by omega
 have hin : (i : Int) ≤ j := by omega
 refine Chain.slice3 (id := 1000) (off := 0) (len := es.length) (mq := es.length) (hq := j) (lq := i) (by simp) rfl ty22 rfl ty30 rfl (by simp [bnd]) (by simp [bnd, hj]) (by simp [bnd]; omega) ?_
 refine Chain.nil ?_
 have hne : ¬ ((i : Int) = j) := by omega
 refine AW.seq ?_
 refine AW.goR [] 3 fun K hK => ?_; simp; refine hK _ ?_; clear hK K
 refine AW.condK fun K1 K2 k1 k2 => ?_; simp [hne]; refine k2 ?_; clear k1 k2 K1 K2
 refine AW.skip ?_
 refine thenQ_normal ?_
 refine AW.goR [] 3 fun K hK => ?_; simp; refine hK _ ?_; clear hK K
 refine AW.seqT 6 (by kernel_rfl) (by kernel_rfl) fun K hK => ?_
 simp [show i ≤ es.length by omega, hj]; refine hK _ _ ?_; clear hK K
 have htk : List.take (es.length - j) (es.drop j) = es.drop j := List.take_of_length_le (by simp)
 refine Chain.cut (mk 33 [] [(0, .ref 1000 0 (i + (es.length - j))), (7, .d (.lit (.int .i64 es.length)))] [(1000, some (.arr 30 2 (es.take i ++ (es.drop j ++ es.drop (i + (es.length - j))))))]) ?_ fun S' hS => AW.sub hS ?_
 ·by_cases hje : j = es.length
  ·have hdn : es.drop j = [] := by rw [hje]; simp
   refine Chain.appNo (id := 1000) (len := i) (es := es) (te := ⟨_, 2, 24, _⟩) (by simp) rfl rfl rfl rfl ty22 rfl ty30 rfl rfl (by simp [srcV, hje]) (by omega) (by omega) ?_
   refine Chain.runK [] 1 fun K hK => ?_; simp; refine hK _ _ ?_; clear hK K
   refine Chain.nil ?_
   exact Sub.table (by simp [hje]) (by simp [hje])
  ·refine Chain.appIn (id := 1000) (len := i) (es := es) (ys := es.drop j) (te := ⟨_, 2, 24, _⟩) (by simp) rfl rfl rfl rfl ty22 rfl ty30 rfl rfl (by simp [srcV, show j + (es.length - j) ≤ es.length by omega]) (fun y hy => hes y (List.mem_of_mem_drop hy)) (by simp; omega) (by simp; omega) ?_
   refine Chain.runK [] 1 fun K hK => ?_; simp; refine hK _ _ ?_; clear hK K
   refine Chain.nil ?_
   exact Sub.table (by simp) (by simp)
 have hl2 : (es.take i ++ (es.drop j ++ es.drop (i + (es.length - j)))).length = es.length := by simp; omega
 have hes2 : ∀ x ∈ (es.take i ++ (es.drop j ++ es.drop (i + (es.length - j)))), x.length = 2 := fun x hx => by
  rcases List.mem_append.1 hx with hx | hx
  ·exact hes x (List.mem_of_mem_take hx)
  ·rcases List.mem_append.1 hx with hx | hx
   ·exact hes x (List.mem_of_mem_drop hx)
   ·exact hes x (List.mem_of_mem_drop hx)
 have htk2 : (es.take i ++ (es.drop j ++ es.drop (i + (es.length - j)))).take (i + (es.length - j)) = es.take i ++ es.drop j := by
  rw [← List.append_assoc]
  exact List.take_left' (by simp; omega)
 generalize (es.take i ++ (es.drop j ++ es.drop (i + (es.length - j)))) = es2 at hl2 hes2 htk2 ⊢
 refine AW.seqR ?_
 refine Chain.runK [] 4 fun K hK => ?_; simp; refine hK _ _ ?_; clear hK K
 refine Chain.sliceX (id := 1000) (off := 0) (len := i + (es.length - j)) (es := es2) (hq := es.length) (lq := i + (es.length - j)) (te := ⟨_, 2, 24, _⟩) (by simp) rfl ty22 rfl ty30 rfl rfl (by omega) (by omega) (by simp [bnd, hl2]) (by simp [bnd]; omega) ?_
 simp
 refine Chain.clear (id := 1000) (off := i + (es.length - j)) (len := es.length - (i + (es.length - j))) (es := es2) (te := ⟨_, 2, 24, _⟩) (by simp) rfl rfl rfl rfl ty22 rfl ty30 (by simp) (by simp) rfl rfl (by omega) (by omega) ?_
 simp
 refine Chain.nil ?_
 refine AW.goR [] 2 fun K hK => ?_; simp; refine hK _ ?_; clear hK K
 have hcl : ∀ zs : List (List D), List.take (i + (es.length - j)) (es.take i ++ (es.drop j ++ zs)) = es.take i ++ es.drop j := fun zs => by
  rw [← List.append_assoc]
  exact List.take_left' (by simp; omega)
 refine AW.sub (Sub.cut 1000 (i + (es.length - j)) rfl) ?_
 refine AW.sub (S' := mk 33 [] [(6, .ref 1000 0 (i + (es.length - j)))] [(1000, some (.arr 30 2 (es.take i ++ es.drop j)))]) (by simp [htk2]; exact Sub.table (by simp) (by simp [hcl])) ?_
 refine AW.ret ?_
 exact FinF.ret (by simp) (by simp)

end Go.Proofs.Ytdiekinmoklonac
