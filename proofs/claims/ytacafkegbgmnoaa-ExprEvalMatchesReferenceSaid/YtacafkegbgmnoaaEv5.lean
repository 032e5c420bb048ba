/- Functions of the program as functional programs; the code computes them. -/
import Derived.Test.YtacafkegbgmnoaaEv4
namespace Go.Proofs.Ytacafkegbgmnoaa
open Go.Ab Go.Rp
attribute [-simp] List.all_eq_true Array.all_toList Array.all_eq_true

/-- stemma/stemlaw3.values -/
def d5 (N : Nat)  : Option Bool :=
 (d15 N true).bind fun r1 =>
 (d12 N (S41.mk [] [] [] [] []) (S27.mk 1 (ByteArray.mk #[]) 0 r1 [])).bind fun r2 =>
 (d14 N r2).bind fun r3 =>
 some r3
set_option maxRecDepth 100000 in
set_option maxHeartbeats 4000000 in
theorem p5 (N : Nat)  (r : Bool) (h : d5 N  = some r) : FunC Try.prog 5 [] (.d (.lit (.bool r))) := by
 unfold d5 at h
 refine FunC.enter 6 [] (by simp) Try.func5 rfl (of_decide_eq_true rfl) rfl rfl ?_
 refine AW.seqR ?_
 refine Chain.runK [] 1 fun K hK => ?_; simp; refine hK _ _ ?_; clear hK K
 refine Chain.sub (S' := mk 6 [] [] []) Sub.tt ?_
 refine Chain.nil ?_
 refine AW.seqR ?_
 refine Chain.runK [] 1 fun K hK => ?_; simp; refine hK _ _ ?_; clear hK K
 refine Chain.sub (S' := mk 6 [] [(1, .agg [.d (.lit (.slice none 0 0)), .d (.lit (.slice none 0 0)), .d (.lit (.slice none 0 0)), .d (.lit (.slice none 0 0)), .d (.lit (.slice none 0 0))])] []) Sub.tt ?_
 replace h := bsome h; obtain ⟨r1, hr1, h⟩ := h
 refine Chain.callC (d := 2) (p15 N true r1 hr1) (by simp) rfl rfl (by simp <;> rfl) (by simp <;> rfl) ent15 (by simp) (.inl ⟨by simp, by simp⟩) ?_
 refine Chain.sub (S' := mk 6 [] [(1, .agg [.d (.lit (.slice none 0 0)), .d (.lit (.slice none 0 0)), .d (.lit (.slice none 0 0)), .d (.lit (.slice none 0 0)), .d (.lit (.slice none 0 0))]), (2, .agg [.d (.lit (.int .i64 r1.Kind)), .d (.lit (.int .i64 r1.Int)), .d (.lit (.string r1.Text))])] []) (by simp; exact Sub.table (by simp) (by simp)) ?_
 refine Chain.runK [] 1 fun K hK => ?_; simp; refine hK _ _ ?_; clear hK K
 refine Chain.sub (S' := mk 6 [] [(1, .agg [.d (.lit (.slice none 0 0)), .d (.lit (.slice none 0 0)), .d (.lit (.slice none 0 0)), .d (.lit (.slice none 0 0)), .d (.lit (.slice none 0 0))]), (3, .agg [.d (.lit (.int .i64 1)), .d (.lit (.string (ByteArray.mk #[]))), .d (.lit (.int .i64 0)), .d (.lit (.int .i64 r1.Kind)), .d (.lit (.int .i64 r1.Int)), .d (.lit (.string r1.Text)), .d (.lit (.slice none 0 0))])] []) Sub.tt ?_
 replace h := bsome h; obtain ⟨r2, hr2, h⟩ := h
 refine Chain.callC (d := 4) (FunC.args (args := [.agg [.d (.lit (.slice none 0 0)), .d (.lit (.slice none 0 0)), .d (.lit (.slice none 0 0)), .d (.lit (.slice none 0 0)), .d (.lit (.slice none 0 0))], .agg [.d (.lit (.int .i64 1)), .d (.lit (.string (ByteArray.mk #[]))), .d (.lit (.int .i64 0)), .d (.lit (.int .i64 r1.Kind)), .d (.lit (.int .i64 r1.Int)), .d (.lit (.string r1.Text)), .d (.lit (.slice none 0 0))]]) (p12 N (S41.mk [] [] [] [] []) (S27.mk 1 (ByteArray.mk #[]) 0 r1 []) r2 hr2) (by simp) rfl) (by simp) rfl rfl (by simp <;> rfl) (by simp <;> rfl) ent12 (by simp) (.inl ⟨by simp, by simp⟩) ?_
 refine Chain.sub (S' := mk 6 [] [(1, .agg [.d (.lit (.slice none 0 0)), .d (.lit (.slice none 0 0)), .d (.lit (.slice none 0 0)), .d (.lit (.slice none 0 0)), .d (.lit (.slice none 0 0))]), (3, .agg [.d (.lit (.int .i64 1)), .d (.lit (.string (ByteArray.mk #[]))), .d (.lit (.int .i64 0)), .d (.lit (.int .i64 r1.Kind)), .d (.lit (.int .i64 r1.Int)), .d (.lit (.string r1.Text)), .d (.lit (.slice none 0 0))]), (4, .agg [.d (.lit (.int .i64 r2.Kind)), .d (.lit (.int .i64 r2.Int)), .d (.lit (.string r2.Text))])] []) (by simp; exact Sub.table (by simp) (by simp)) ?_
 replace h := bsome h; obtain ⟨r3, hr3, h⟩ := h
 refine Chain.callL (d := 5) (p14 N r2 r3 hr3) (by simp) rfl rfl (by simp <;> rfl) (by simp <;> rfl) ent14 (by simp <;> rfl) ?_
 refine Chain.sub (S' := mk 6 [] [(1, .agg [.d (.lit (.slice none 0 0)), .d (.lit (.slice none 0 0)), .d (.lit (.slice none 0 0)), .d (.lit (.slice none 0 0)), .d (.lit (.slice none 0 0))]), (3, .agg [.d (.lit (.int .i64 1)), .d (.lit (.string (ByteArray.mk #[]))), .d (.lit (.int .i64 0)), .d (.lit (.int .i64 r1.Kind)), .d (.lit (.int .i64 r1.Int)), .d (.lit (.string r1.Text)), .d (.lit (.slice none 0 0))]), (4, .agg [.d (.lit (.int .i64 r2.Kind)), .d (.lit (.int .i64 r2.Int)), .d (.lit (.string r2.Text))]), (5, .d (.lit (.bool r3)))] []) (by simp; exact Sub.table (by simp) (by simp)) ?_
 refine Chain.runK [] 1 fun K hK => ?_; simp; refine hK _ _ ?_; clear hK K
 refine Chain.sub (S' := mk 6 [] [(0, .d (.lit (.bool r3)))] []) Sub.tt ?_
 refine Chain.nil ?_
 refine AW.ret ?_
 cases h
 exact FinC.ret (by simp) (by simp)

/-- stemma/stemlaw3.small -/
def d6 : (N : Nat) → (a0 : S27) → (a1 : Int) → Option Int
 | 0, _, _ => none
 | N + 1, a0, a1 =>
  bindO (β := Int) (ρ := Int) (
   iterN (σ := (Int × Int)) (ρ := (Out Int Int)) (fun ((v8, v9) : (Int × Int)) =>
    if v9 < (a0.Args.length : Int) then (
     (idx a0.Args v9).bind fun x30 =>
     (chkI (v8 - 1)).bind fun v32 =>
     if v32 < 0 then (
      some (.inr (.ret (-1)))
     ) else
     (d6 N x30 v32).bind fun r34 =>
     if r34 < 0 then (
      some (.inr (.ret (-1)))
     ) else
     (chkI (v9 + 1)).bind fun v36 =>
     some (.inl (r34, v36))
    ) else
    some (.inr (.go v8))
   ) N (a1, 0)
  ) fun (v28 : Int) =>
  some v28
set_option maxRecDepth 100000 in
set_option maxHeartbeats 4000000 in
theorem p6 (N : Nat) : ∀ (a0 : S27) (a1 : Int) (r : Int) (_ : d6 N a0 a1 = some r), FunC Try.prog 6 [.agg [.d (.lit (.int .i64 a0.Kind)), .d (.lit (.string a0.Name)), .d (.lit (.int .i64 a0.Index)), .d (.lit (.int .i64 a0.Value.Kind)), .d (.lit (.int .i64 a0.Value.Int)), .d (.lit (.string a0.Value.Text)), .d (.sl (a0.Args.map cS27))], .d (.lit (.int .i64 a1))] (.d (.lit (.int .i64 r))) := by
 induction N with
 | zero => intro a0 a1 r h; cases h
 | succ N ih =>
 intro a0 a1 r h
 unfold d6 at h
 refine FunC.enter 25 [(0, .agg [.d (.lit (.int .i64 a0.Kind)), .d (.lit (.string a0.Name)), .d (.lit (.int .i64 a0.Index)), .d (.lit (.int .i64 a0.Value.Kind)), .d (.lit (.int .i64 a0.Value.Int)), .d (.lit (.string a0.Value.Text)), .d (.sl (a0.Args.map cS27))]), (1, .d (.lit (.int .i64 a1)))] (by simp) Try.func6 rfl (of_decide_eq_true rfl) rfl rfl ?_
 refine AW.seqR ?_
 refine Chain.runK [] 2 fun K hK => ?_; simp; refine hK _ _ ?_; clear hK K
 refine Chain.sub (S' := mk 25 [] [(1, .d (.lit (.int .i64 a1))), (2, .ptr 2 0 0)] [(2, some (.box [.d (.lit (.int .i64 a0.Kind)), .d (.lit (.string a0.Name)), .d (.lit (.int .i64 a0.Index)), .d (.lit (.int .i64 a0.Value.Kind)), .d (.lit (.int .i64 a0.Value.Int)), .d (.lit (.string a0.Value.Text)), .d (.sl (a0.Args.map cS27))]))]) Sub.tt ?_
 refine Chain.nil ?_
 refine AW.seq ?_
 refine AW.seqR ?_
 refine Chain.runK [] 4 fun K hK => ?_; simp; refine hK _ _ ?_; clear hK K
 refine Chain.sub (S' := mk 25 [] [(1, .d (.lit (.int .i64 a1))), (8, .d (.sl (a0.Args.map cS27))), (9, .d (.lit (.int .i64 (a0.Args.length : Int)))), (10, .d (.lit (.int .i64 0)))] []) Sub.tt ?_
 refine Chain.nil ?_
 refine AW.lastJ (fun (v28 : Int) => mk 25 [] [(1, .d (.lit (.int .i64 v28)))] []) h ?_ ?_ <;> clear h
 ·intro o h
  refine AW.block ?_
  refine AW.iter (fun ((v8, v9) : (Int × Int)) => mk 25 [] [(1, .d (.lit (.int .i64 v8))), (8, .d (.sl (a0.Args.map cS27))), (9, .d (.lit (.int .i64 (a0.Args.length : Int)))), (10, .d (.lit (.int .i64 v9)))] []) h Sub.tt ?_
  clear h
  rintro ⟨v8, v9⟩ x h
  dsimp only at h ⊢
  refine AW.seqR ?_
  refine Chain.runK [] 1 fun K hK => ?_; simp; refine hK _ _ ?_; clear hK K
  refine Chain.sub (S' := mk 25 [] [(1, .d (.lit (.int .i64 v8))), (8, .d (.sl (a0.Args.map cS27))), (9, .d (.lit (.int .i64 (a0.Args.length : Int)))), (10, .d (.lit (.int .i64 v9))), (11, .d (.lit (.bool (decide (v9 < (a0.Args.length : Int))))))] []) Sub.tt ?_
  refine Chain.nil ?_
  refine AW.seq ?_
  replace h := isome h; rcases h with ⟨c29, h⟩ | ⟨c29, h⟩
  ·have c29_ : decide (v9 < (a0.Args.length : Int)) = true := decide_eq_true c29
   refine AW.condT (b := decide (v9 < (a0.Args.length : Int))) rfl c29_ ?_
   refine AW.sub (Sub.bool 11 (b := decide (v9 < (a0.Args.length : Int))) rfl c29_) ?_
   refine AW.sub (S' := mk 25 [] [(1, .d (.lit (.int .i64 v8))), (8, .d (.sl (a0.Args.map cS27))), (9, .d (.lit (.int .i64 (a0.Args.length : Int)))), (10, .d (.lit (.int .i64 v9))), (11, .d (.lit (.bool true)))] []) (by simp; exact Sub.table (by simp) (by simp)) ?_
   refine AW.skip ?_
   refine thenQ_normal ?_
   refine AW.seq ?_
   refine AW.block ?_
   refine AW.seqR ?_
   replace h := bsome h; obtain ⟨x30, hx30, h⟩ := h
   obtain ⟨k31, hx30k, hx30, hx30a, hx30b⟩ := idx_some hx30
   refine Chain.runK [] 4 fun K hK => ?_; simp [hx30, hx30k, hx30a]; refine hK _ _ ?_; clear hK K
   refine Chain.sub (S' := mk 25 [] [(1, .d (.lit (.int .i64 v8))), (6, .ptr 6 0 0), (8, .d (.sl (a0.Args.map cS27))), (9, .d (.lit (.int .i64 (a0.Args.length : Int)))), (10, .d (.lit (.int .i64 v9)))] [(6, some (.box [.d (.lit (.int .i64 x30.Kind)), .d (.lit (.string x30.Name)), .d (.lit (.int .i64 x30.Index)), .d (.lit (.int .i64 x30.Value.Kind)), .d (.lit (.int .i64 x30.Value.Int)), .d (.lit (.string x30.Value.Text)), .d (.sl (x30.Args.map cS27))]))]) Sub.tt ?_
   refine Chain.nil ?_
   refine AW.seq ?_
   refine AW.seqR ?_
   replace h := bsome h; obtain ⟨v32, hv32, h⟩ := h
   have hv32 := chkI_some hv32
   refine Chain.runK [] 3 fun K hK => ?_; simp [hv32]; refine hK _ _ ?_; clear hK K
   refine Chain.sub (S' := mk 25 [] [(1, .d (.lit (.int .i64 v32))), (6, .ptr 6 0 0), (8, .d (.sl (a0.Args.map cS27))), (9, .d (.lit (.int .i64 (a0.Args.length : Int)))), (10, .d (.lit (.int .i64 v9)))] [(6, some (.box [.d (.lit (.int .i64 x30.Kind)), .d (.lit (.string x30.Name)), .d (.lit (.int .i64 x30.Index)), .d (.lit (.int .i64 x30.Value.Kind)), .d (.lit (.int .i64 x30.Value.Int)), .d (.lit (.string x30.Value.Text)), .d (.sl (x30.Args.map cS27))]))]) Sub.tt ?_
   refine Chain.nil ?_
   refine AW.seqR ?_
   refine Chain.runK [] 2 fun K hK => ?_; simp; refine hK _ _ ?_; clear hK K
   refine Chain.sub (S' := mk 25 [] [(1, .d (.lit (.int .i64 v32))), (6, .ptr 6 0 0), (8, .d (.sl (a0.Args.map cS27))), (9, .d (.lit (.int .i64 (a0.Args.length : Int)))), (10, .d (.lit (.int .i64 v9))), (17, .d (.lit (.bool (decide (v32 < 0)))))] [(6, some (.box [.d (.lit (.int .i64 x30.Kind)), .d (.lit (.string x30.Name)), .d (.lit (.int .i64 x30.Index)), .d (.lit (.int .i64 x30.Value.Kind)), .d (.lit (.int .i64 x30.Value.Int)), .d (.lit (.string x30.Value.Text)), .d (.sl (x30.Args.map cS27))]))]) Sub.tt ?_
   refine Chain.nil ?_
   replace h := isome h; rcases h with ⟨c33, h⟩ | ⟨c33, h⟩
   ·have c33_ : decide (v32 < 0) = true := decide_eq_true c33
    refine AW.condT (b := decide (v32 < 0)) rfl c33_ ?_
    refine AW.sub (Sub.bool 17 (b := decide (v32 < 0)) rfl c33_) ?_
    refine AW.sub (S' := mk 25 [] [(1, .d (.lit (.int .i64 v32))), (6, .ptr 6 0 0), (8, .d (.sl (a0.Args.map cS27))), (9, .d (.lit (.int .i64 (a0.Args.length : Int)))), (10, .d (.lit (.int .i64 v9))), (17, .d (.lit (.bool true)))] [(6, some (.box [.d (.lit (.int .i64 x30.Kind)), .d (.lit (.string x30.Name)), .d (.lit (.int .i64 x30.Index)), .d (.lit (.int .i64 x30.Value.Kind)), .d (.lit (.int .i64 x30.Value.Int)), .d (.lit (.string x30.Value.Text)), .d (.sl (x30.Args.map cS27))]))]) (by simp; exact Sub.table (by simp) (by simp)) ?_
    refine AW.seqR ?_
    refine Chain.runK [] 1 fun K hK => ?_; simp; refine hK _ _ ?_; clear hK K
    refine Chain.sub (S' := mk 25 [] [(4, .d (.lit (.int .i64 (-1))))] []) Sub.tt ?_
    refine Chain.nil ?_
    refine AW.ret ?_
    cases h
    refine thenQ_pass (by simp) ?_
    refine blockQ.ret ?_
    refine thenQ_pass (by simp) ?_
    refine PostI.out (by simp) ?_
    rintro rfl
    refine blockQ.ret ?_
    refine PostJ.out (by simp) ?_
    rintro rfl
    refine thenQ_pass (by simp) ?_
    exact FinC.ret (by simp) (by simp)
   ·have c33_ : decide (v32 < 0) = false := decide_eq_false c33
    refine AW.condF (b := decide (v32 < 0)) rfl c33_ ?_
    refine AW.sub (Sub.bool 17 (b := decide (v32 < 0)) rfl c33_) ?_
    refine AW.sub (S' := mk 25 [] [(1, .d (.lit (.int .i64 v32))), (6, .ptr 6 0 0), (8, .d (.sl (a0.Args.map cS27))), (9, .d (.lit (.int .i64 (a0.Args.length : Int)))), (10, .d (.lit (.int .i64 v9))), (17, .d (.lit (.bool false)))] [(6, some (.box [.d (.lit (.int .i64 x30.Kind)), .d (.lit (.string x30.Name)), .d (.lit (.int .i64 x30.Index)), .d (.lit (.int .i64 x30.Value.Kind)), .d (.lit (.int .i64 x30.Value.Int)), .d (.lit (.string x30.Value.Text)), .d (.sl (x30.Args.map cS27))]))]) (by simp; exact Sub.table (by simp) (by simp)) ?_
    refine AW.skip ?_
    refine thenQ_normal ?_
    refine AW.seqR ?_
    refine Chain.runK [] 2 fun K hK => ?_; simp; refine hK _ _ ?_; clear hK K
    refine Chain.sub (S' := mk 25 [] [(8, .d (.sl (a0.Args.map cS27))), (9, .d (.lit (.int .i64 (a0.Args.length : Int)))), (10, .d (.lit (.int .i64 v9))), (18, .agg [.d (.lit (.int .i64 x30.Kind)), .d (.lit (.string x30.Name)), .d (.lit (.int .i64 x30.Index)), .d (.lit (.int .i64 x30.Value.Kind)), .d (.lit (.int .i64 x30.Value.Int)), .d (.lit (.string x30.Value.Text)), .d (.sl (x30.Args.map cS27))]), (19, .d (.lit (.int .i64 v32)))] []) Sub.tt ?_
    replace h := bsome h; obtain ⟨r34, hr34, h⟩ := h
    refine Chain.callL (d := 20) (ih x30 v32 r34 hr34) (by simp) rfl rfl (by simp <;> rfl) (by simp <;> rfl) ent6 (by simp <;> rfl) ?_
    refine Chain.sub (S' := mk 25 [] [(8, .d (.sl (a0.Args.map cS27))), (9, .d (.lit (.int .i64 (a0.Args.length : Int)))), (10, .d (.lit (.int .i64 v9))), (18, .agg [.d (.lit (.int .i64 x30.Kind)), .d (.lit (.string x30.Name)), .d (.lit (.int .i64 x30.Index)), .d (.lit (.int .i64 x30.Value.Kind)), .d (.lit (.int .i64 x30.Value.Int)), .d (.lit (.string x30.Value.Text)), .d (.sl (x30.Args.map cS27))]), (19, .d (.lit (.int .i64 v32))), (20, .d (.lit (.int .i64 r34)))] []) (by simp; exact Sub.table (by simp) (by simp)) ?_
    refine Chain.runK [] 1 fun K hK => ?_; simp; refine hK _ _ ?_; clear hK K
    refine Chain.sub (S' := mk 25 [] [(1, .d (.lit (.int .i64 r34))), (8, .d (.sl (a0.Args.map cS27))), (9, .d (.lit (.int .i64 (a0.Args.length : Int)))), (10, .d (.lit (.int .i64 v9)))] []) Sub.tt ?_
    refine Chain.nil ?_
    refine AW.seqR ?_
    refine Chain.runK [] 2 fun K hK => ?_; simp; refine hK _ _ ?_; clear hK K
    refine Chain.sub (S' := mk 25 [] [(1, .d (.lit (.int .i64 r34))), (8, .d (.sl (a0.Args.map cS27))), (9, .d (.lit (.int .i64 (a0.Args.length : Int)))), (10, .d (.lit (.int .i64 v9))), (22, .d (.lit (.bool (decide (r34 < 0)))))] []) Sub.tt ?_
    refine Chain.nil ?_
    replace h := isome h; rcases h with ⟨c35, h⟩ | ⟨c35, h⟩
    ·have c35_ : decide (r34 < 0) = true := decide_eq_true c35
     refine AW.condT (b := decide (r34 < 0)) rfl c35_ ?_
     refine AW.sub (Sub.bool 22 (b := decide (r34 < 0)) rfl c35_) ?_
     refine AW.sub (S' := mk 25 [] [(1, .d (.lit (.int .i64 r34))), (8, .d (.sl (a0.Args.map cS27))), (9, .d (.lit (.int .i64 (a0.Args.length : Int)))), (10, .d (.lit (.int .i64 v9))), (22, .d (.lit (.bool true)))] []) (by simp; exact Sub.table (by simp) (by simp)) ?_
     refine AW.seqR ?_
     refine Chain.runK [] 1 fun K hK => ?_; simp; refine hK _ _ ?_; clear hK K
     refine Chain.sub (S' := mk 25 [] [(4, .d (.lit (.int .i64 (-1))))] []) Sub.tt ?_
     refine Chain.nil ?_
     refine AW.ret ?_
     cases h
     refine blockQ.ret ?_
     refine thenQ_pass (by simp) ?_
     refine PostI.out (by simp) ?_
     rintro rfl
     refine blockQ.ret ?_
     refine PostJ.out (by simp) ?_
     rintro rfl
     refine thenQ_pass (by simp) ?_
     exact FinC.ret (by simp) (by simp)
    ·have c35_ : decide (r34 < 0) = false := decide_eq_false c35
     refine AW.condF (b := decide (r34 < 0)) rfl c35_ ?_
     refine AW.sub (Sub.bool 22 (b := decide (r34 < 0)) rfl c35_) ?_
     refine AW.sub (S' := mk 25 [] [(1, .d (.lit (.int .i64 r34))), (8, .d (.sl (a0.Args.map cS27))), (9, .d (.lit (.int .i64 (a0.Args.length : Int)))), (10, .d (.lit (.int .i64 v9))), (22, .d (.lit (.bool false)))] []) (by simp; exact Sub.table (by simp) (by simp)) ?_
     refine AW.skip ?_
     refine blockQ.normal ?_
     refine thenQ_normal ?_
     refine AW.region ?_
     replace h := bsome h; obtain ⟨v36, hv36, h⟩ := h
     have hv36 := chkI_some hv36
     refine Chain.runK [] 2 fun K hK => ?_; simp [hv36]; refine hK _ _ ?_; clear hK K
     refine Chain.sub (S' := mk 25 [] [(1, .d (.lit (.int .i64 r34))), (8, .d (.sl (a0.Args.map cS27))), (9, .d (.lit (.int .i64 (a0.Args.length : Int)))), (10, .d (.lit (.int .i64 v36)))] []) Sub.tt ?_
     refine Chain.nil ?_
     cases h
     refine PostI.next ?_
     exact Sub.tt
  ·have c29_ : decide (v9 < (a0.Args.length : Int)) = false := decide_eq_false c29
   refine AW.condF (b := decide (v9 < (a0.Args.length : Int))) rfl c29_ ?_
   refine AW.sub (Sub.bool 11 (b := decide (v9 < (a0.Args.length : Int))) rfl c29_) ?_
   refine AW.sub (S' := mk 25 [] [(1, .d (.lit (.int .i64 v8))), (8, .d (.sl (a0.Args.map cS27))), (9, .d (.lit (.int .i64 (a0.Args.length : Int)))), (10, .d (.lit (.int .i64 v9))), (11, .d (.lit (.bool false)))] []) (by simp; exact Sub.table (by simp) (by simp)) ?_
   refine AW.exit ?_
   cases h
   refine thenQ_pass (by simp) ?_
   refine PostI.out (by simp) ?_
   rintro rfl
   refine blockQ.hit ?_
   refine PostJ.next ?_
   exact Sub.tt
 ·rintro v28 h
  refine thenQ_normal ?_
  refine AW.seqR ?_
  refine Chain.runK [] 2 fun K hK => ?_; simp; refine hK _ _ ?_; clear hK K
  refine Chain.sub (S' := mk 25 [] [(4, .d (.lit (.int .i64 v28)))] []) Sub.tt ?_
  refine Chain.nil ?_
  refine AW.ret ?_
  cases h
  exact FinC.ret (by simp) (by simp)

/-- slices.Grow[stemma/api.Row,stemma/api.Value], of nil -/
theorem p20 (_ : Nat) (a1 : Int) {u : Unit} (h : growL 32 a1 = some u) : FunO Try.prog 20 [.d (.lit (.slice none 0 0)), .d (.lit (.int .i64 a1))] (.ref 0 0 ([] : (List S24)).length) (.arr 24 3 (([] : (List S24)).map cS24)) := by
 obtain ⟨k, rfl, hb⟩ := growL_some h
 refine FunO.enter 27 [(0, .d (.lit (.slice none 0 0))), (1, .d (.lit (.int .i64 k)))] Try.func20 rfl (of_decide_eq_true rfl) rfl rfl ?_
 refine AW.goR [] 1 fun K hK => ?_; simp; refine hK _ ?_; clear hK K
 refine AW.seq ?_
 refine AW.goR [] 2 fun K hK => ?_; simp; refine hK _ ?_; clear hK K
 have hkn : ¬ ((k : Int) < 0) := by omega
 refine AW.condK fun K1 K2 k1 k2 => ?_; simp [hkn]; refine k2 ?_; clear k1 k2 K1 K2
 refine AW.skip ?_
 refine thenQ_normal ?_
 refine AW.seq ?_
 refine AW.seqR ?_
 refine Chain.runK [] 2 fun K hK => ?_; simp; refine hK _ _ ?_; clear hK K
 refine Chain.pureP (by simp) (pure_capNil rfl rfl rfl ty35 rfl rfl) ?_
 have hw0 : IntKind.i64.wrap 0 = 0 := rfl
 have hw : IntKind.i64.wrap (k : Int) = k := wrap_ok ⟨by omega, by unfold Rp.reach at hb; omega⟩
 refine Chain.runK [] 5 fun K hK => ?_; simp [hw, hw0]; refine hK _ _ ?_; clear hK K
 refine Chain.nil ?_
 refine AW.goR [] 2 fun K hK => ?_; simp; refine hK _ ?_; clear hK K
 rcases Nat.eq_zero_or_pos k with hk | hk
 ·subst hk
  refine AW.condK fun K1 K2 k1 k2 => ?_; simp; refine k2 ?_; clear k1 k2 K1 K2
  refine AW.skip ?_
  refine thenQ_normal ?_
  refine AW.goR [] 2 fun K hK => ?_; simp; refine hK _ ?_; clear hK K
  refine AW.sub (Sub.nilOwn (t := 4) (id := 900) (T := 24) (n := 3) rfl rfl (by decide)) ?_
  refine AW.sub (S' := mk 27 [] [(4, .ref 900 0 0)] [(900, some (.arr 24 3 []))]) (by simp; exact Sub.table (by simp) (by simp)) ?_
  refine AW.ret ?_
  exact FinO.ret (.ref 900 0 0) 900 (by simp) (by simp) (by simp) (by simp) rfl
 ·have hk0 : ¬ k = 0 := by omega
  refine AW.condK fun K1 K2 k1 k2 => ?_; simp [hk]; refine k1 ?_; clear k1 k2 K1 K2
  refine AW.region ?_
  refine Chain.runK [] 2 fun K hK => ?_; simp; refine hK _ _ ?_; clear hK K
  refine Chain.pureP (by simp) (pure_capNil rfl rfl rfl ty35 rfl rfl) ?_
  refine Chain.pureP (by simp) (pure_sliceNil ty35 rfl ty24 rfl rfl) ?_
  refine Chain.runK [] 1 fun K hK => ?_; simp; refine hK _ _ ?_; clear hK K
  refine Chain.appMk (d := 22) (n := k) (te := ⟨_, 3, 32, _⟩) (by simp) rfl rfl rfl rfl ty35 rfl ty3 rfl ty24 rfl (by simp) rfl rfl hk (by decide) (by decide) rfl rfl hb ?_
  simp
  refine Chain.sub (S' := mk 27 [] [(0, .d (.lit (.slice none 0 0))), (22, .ref 22 0 k)] [(22, some (.arr 24 3 (List.replicate k [.lit (.int .i64 0), .lit (.int .i64 0), .lit (.string (ByteArray.mk #[]))])))]) Sub.tt ?_
  refine Chain.runK [] 4 fun K hK => ?_; simp; refine hK _ _ ?_; clear hK K
  refine Chain.nil ?_
  refine thenQ_normal ?_
  refine AW.goR [] 2 fun K hK => ?_; simp; refine hK _ ?_; clear hK K
  refine AW.sub (Sub.cut 22 0 rfl) ?_
  refine AW.sub (S' := mk 27 [] [(4, .ref 22 0 0)] [(22, some (.arr 24 3 []))]) (by simp; exact Sub.table (by simp) (by simp)) ?_
  refine AW.ret ?_
  exact FinO.ret (.ref 22 0 0) 22 (by simp) (by simp) (by simp) (by simp) rfl

/-- slices.Concat[stemma/api.Row,stemma/api.Value] -/
def d9 (N : Nat) (a0 : (List (List S24))) : Option (List S24) :=
 Option.bind (α := Int) (
  iterN (σ := (Int × Int)) (ρ := Int) (fun ((v6, v7) : (Int × Int)) =>
   if v7 < (a0.length : Int) then (
    (idx a0 v7).bind fun x24 =>
    (chkI (v6 + (x24.length : Int))).bind fun v26 =>
    if v26 < 0 then (
     none
    ) else
    (chkI (v7 + 1)).bind fun v28 =>
    some (.inl (v26, v28))
   ) else
   some (.inr v6)
  ) N (0, 0)
 ) fun (v22 : Int) =>
 (growL 32 v22).bind fun _ =>
 Option.bind (α := List S24) (
  iterN (σ := ((List S24) × Int)) (ρ := List S24) (fun ((l34, v35) : ((List S24) × Int)) =>
   if v35 < (a0.length : Int) then (
    (idx a0 v35).bind fun x50 =>
    (appL 32 l34 x50).bind fun _l52 =>
    (chkI (v35 + 1)).bind fun v53 =>
    some (.inl ((l34 ++ x50), v53))
   ) else
   some (.inr l34)
  ) N (([] : List S24), 0)
 ) fun (l48 : List S24) =>
 some l48
set_option maxRecDepth 100000 in
set_option maxHeartbeats 4000000 in
theorem p9 (N : Nat) (a0 : (List (List S24))) (r : (List S24)) (h : d9 N a0 = some r) : FunC Try.prog 9 [.d (.sl (a0.map (cL cS24)))] (.d (.sl (r.map cS24))) := by
 unfold d9 at h
 refine FunC.enter 36 [(0, .d (.sl (a0.map (cL cS24))))] (by simp) Try.func9 rfl (of_decide_eq_true rfl) rfl rfl ?_
 refine AW.seqR ?_
 refine Chain.runK [] 1 fun K hK => ?_; simp; refine hK _ _ ?_; clear hK K
 refine Chain.sub (S' := mk 36 [] [(0, .d (.sl (a0.map (cL cS24))))] []) Sub.tt ?_
 refine Chain.nil ?_
 refine AW.seqR ?_
 refine Chain.runK [] 1 fun K hK => ?_; simp; refine hK _ _ ?_; clear hK K
 refine Chain.sub (S' := mk 36 [] [(0, .d (.sl (a0.map (cL cS24)))), (3, .d (.lit (.int .i64 0)))] []) Sub.tt ?_
 refine Chain.nil ?_
 refine AW.seq ?_
 refine AW.seqR ?_
 refine Chain.runK [] 3 fun K hK => ?_; simp; refine hK _ _ ?_; clear hK K
 refine Chain.sub (S' := mk 36 [] [(0, .d (.sl (a0.map (cL cS24)))), (3, .d (.lit (.int .i64 0))), (9, .d (.sl (a0.map (cL cS24)))), (10, .d (.lit (.int .i64 (a0.length : Int)))), (11, .d (.lit (.int .i64 0)))] []) Sub.tt ?_
 refine Chain.nil ?_
 refine AW.lastN (fun (v22 : Int) => mk 36 [] [(0, .d (.sl (a0.map (cL cS24)))), (3, .d (.lit (.int .i64 v22)))] []) h ?_ ?_ <;> clear h
 ·intro o h
  refine AW.block ?_
  refine AW.iter (fun ((v6, v7) : (Int × Int)) => mk 36 [] [(0, .d (.sl (a0.map (cL cS24)))), (3, .d (.lit (.int .i64 v6))), (9, .d (.sl (a0.map (cL cS24)))), (10, .d (.lit (.int .i64 (a0.length : Int)))), (11, .d (.lit (.int .i64 v7)))] []) h Sub.tt ?_
  clear h
  rintro ⟨v6, v7⟩ x h
  dsimp only at h ⊢
  refine AW.seqR ?_
  refine Chain.runK [] 1 fun K hK => ?_; simp; refine hK _ _ ?_; clear hK K
  refine Chain.sub (S' := mk 36 [] [(0, .d (.sl (a0.map (cL cS24)))), (3, .d (.lit (.int .i64 v6))), (9, .d (.sl (a0.map (cL cS24)))), (10, .d (.lit (.int .i64 (a0.length : Int)))), (11, .d (.lit (.int .i64 v7))), (12, .d (.lit (.bool (decide (v7 < (a0.length : Int))))))] []) Sub.tt ?_
  refine Chain.nil ?_
  refine AW.seq ?_
  replace h := isome h; rcases h with ⟨c23, h⟩ | ⟨c23, h⟩
  ·have c23_ : decide (v7 < (a0.length : Int)) = true := decide_eq_true c23
   refine AW.condT (b := decide (v7 < (a0.length : Int))) rfl c23_ ?_
   refine AW.sub (Sub.bool 12 (b := decide (v7 < (a0.length : Int))) rfl c23_) ?_
   refine AW.sub (S' := mk 36 [] [(0, .d (.sl (a0.map (cL cS24)))), (3, .d (.lit (.int .i64 v6))), (9, .d (.sl (a0.map (cL cS24)))), (10, .d (.lit (.int .i64 (a0.length : Int)))), (11, .d (.lit (.int .i64 v7))), (12, .d (.lit (.bool true)))] []) (by simp; exact Sub.table (by simp) (by simp)) ?_
   refine AW.skip ?_
   refine thenQ_normal ?_
   refine AW.seq ?_
   refine AW.block ?_
   refine AW.seqR ?_
   replace h := bsome h; obtain ⟨x24, hx24, h⟩ := h
   obtain ⟨k25, hx24k, hx24, hx24a, hx24b⟩ := idx_some hx24
   refine Chain.runK [] 3 fun K hK => ?_; simp [hx24, hx24k, hx24a]; refine hK _ _ ?_; clear hK K
   refine Chain.sub (S' := mk 36 [] [(0, .d (.sl (a0.map (cL cS24)))), (3, .d (.lit (.int .i64 v6))), (5, .d (.sl (x24.map cS24))), (9, .d (.sl (a0.map (cL cS24)))), (10, .d (.lit (.int .i64 (a0.length : Int)))), (11, .d (.lit (.int .i64 v7)))] []) Sub.tt ?_
   refine Chain.nil ?_
   refine AW.seqR ?_
   replace h := bsome h; obtain ⟨v26, hv26, h⟩ := h
   have hv26 := chkI_some hv26
   refine Chain.runK [] 5 fun K hK => ?_; simp [hv26]; refine hK _ _ ?_; clear hK K
   refine Chain.sub (S' := mk 36 [] [(0, .d (.sl (a0.map (cL cS24)))), (3, .d (.lit (.int .i64 v26))), (9, .d (.sl (a0.map (cL cS24)))), (10, .d (.lit (.int .i64 (a0.length : Int)))), (11, .d (.lit (.int .i64 v7)))] []) Sub.tt ?_
   refine Chain.nil ?_
   refine AW.seqR ?_
   refine Chain.runK [] 2 fun K hK => ?_; simp; refine hK _ _ ?_; clear hK K
   refine Chain.sub (S' := mk 36 [] [(0, .d (.sl (a0.map (cL cS24)))), (3, .d (.lit (.int .i64 v26))), (9, .d (.sl (a0.map (cL cS24)))), (10, .d (.lit (.int .i64 (a0.length : Int)))), (11, .d (.lit (.int .i64 v7))), (20, .d (.lit (.bool (decide (v26 < 0)))))] []) Sub.tt ?_
   refine Chain.nil ?_
   replace h := isome h; rcases h with ⟨c27, h⟩ | ⟨c27, h⟩
   ·have c27_ : decide (v26 < 0) = true := decide_eq_true c27
    refine AW.condT (b := decide (v26 < 0)) rfl c27_ ?_
    refine AW.sub (Sub.bool 20 (b := decide (v26 < 0)) rfl c27_) ?_
    refine AW.sub (S' := mk 36 [] [(0, .d (.sl (a0.map (cL cS24)))), (3, .d (.lit (.int .i64 v26))), (9, .d (.sl (a0.map (cL cS24)))), (10, .d (.lit (.int .i64 (a0.length : Int)))), (11, .d (.lit (.int .i64 v7))), (20, .d (.lit (.bool true)))] []) (by simp; exact Sub.table (by simp) (by simp)) ?_
    cases h
   ·have c27_ : decide (v26 < 0) = false := decide_eq_false c27
    refine AW.condF (b := decide (v26 < 0)) rfl c27_ ?_
    refine AW.sub (Sub.bool 20 (b := decide (v26 < 0)) rfl c27_) ?_
    refine AW.sub (S' := mk 36 [] [(0, .d (.sl (a0.map (cL cS24)))), (3, .d (.lit (.int .i64 v26))), (9, .d (.sl (a0.map (cL cS24)))), (10, .d (.lit (.int .i64 (a0.length : Int)))), (11, .d (.lit (.int .i64 v7))), (20, .d (.lit (.bool false)))] []) (by simp; exact Sub.table (by simp) (by simp)) ?_
    refine AW.skip ?_
    refine blockQ.normal ?_
    refine thenQ_normal ?_
    refine AW.region ?_
    replace h := bsome h; obtain ⟨v28, hv28, h⟩ := h
    have hv28 := chkI_some hv28
    refine Chain.runK [] 2 fun K hK => ?_; simp [hv28]; refine hK _ _ ?_; clear hK K
    refine Chain.sub (S' := mk 36 [] [(0, .d (.sl (a0.map (cL cS24)))), (3, .d (.lit (.int .i64 v26))), (9, .d (.sl (a0.map (cL cS24)))), (10, .d (.lit (.int .i64 (a0.length : Int)))), (11, .d (.lit (.int .i64 v28)))] []) Sub.tt ?_
    refine Chain.nil ?_
    cases h
    refine PostI.next ?_
    exact Sub.tt
  ·have c23_ : decide (v7 < (a0.length : Int)) = false := decide_eq_false c23
   refine AW.condF (b := decide (v7 < (a0.length : Int))) rfl c23_ ?_
   refine AW.sub (Sub.bool 12 (b := decide (v7 < (a0.length : Int))) rfl c23_) ?_
   refine AW.sub (S' := mk 36 [] [(0, .d (.sl (a0.map (cL cS24)))), (3, .d (.lit (.int .i64 v6))), (9, .d (.sl (a0.map (cL cS24)))), (10, .d (.lit (.int .i64 (a0.length : Int)))), (11, .d (.lit (.int .i64 v7))), (12, .d (.lit (.bool false)))] []) (by simp; exact Sub.table (by simp) (by simp)) ?_
   refine AW.exit ?_
   cases h
   refine thenQ_pass (by simp) ?_
   refine PostI.out (by simp) ?_
   rintro rfl
   refine blockQ.hit ?_
   refine PostN.next ?_
   exact Sub.tt
 ·rintro v22 h
  refine thenQ_normal ?_
  refine AW.seqR ?_
  refine Chain.runK [] 1 fun K hK => ?_; simp; refine hK _ _ ?_; clear hK K
  refine Chain.sub (S' := mk 36 [] [(0, .d (.sl (a0.map (cL cS24)))), (23, .d (.lit (.int .i64 v22)))] []) Sub.tt ?_
  replace h := bsome h; obtain ⟨g29, hg29, h⟩ := h
  refine Chain.callO (d := 24) (p20 N v22 hg29) (by simp) rfl rfl (by simp <;> rfl) (by simp <;> rfl) ent20 (by simp) ⟨by simp, by simp⟩ ?_
  refine Chain.sub (S' := mk 36 [] [(0, .d (.sl (a0.map (cL cS24)))), (23, .d (.lit (.int .i64 v22))), (24, .ref 24 0 (([] : List S24).length))] [(24, some (.arr 24 3 (([] : List S24).map cS24)))]) (by simp; exact Sub.table (by simp) (by simp)) ?_
  refine Chain.runK [] 1 fun K hK => ?_; simp; refine hK _ _ ?_; clear hK K
  refine Chain.sub (S' := mk 36 [] [(0, .d (.sl (a0.map (cL cS24)))), (6, .ref 24 0 (([] : List S24).length))] [(24, some (.arr 24 3 (([] : List S24).map cS24)))]) Sub.tt ?_
  refine Chain.nil ?_
  refine AW.seq ?_
  refine AW.seqR ?_
  refine Chain.runK [] 3 fun K hK => ?_; simp; refine hK _ _ ?_; clear hK K
  refine Chain.sub (S' := mk 36 [] [(6, .ref 24 0 (([] : List S24).length)), (25, .d (.sl (a0.map (cL cS24)))), (26, .d (.lit (.int .i64 (a0.length : Int)))), (27, .d (.lit (.int .i64 0)))] [(24, some (.arr 24 3 (([] : List S24).map cS24)))]) Sub.tt ?_
  refine Chain.nil ?_
  refine AW.lastN (fun (l48 : List S24) => mk 36 [] [(6, .ref 24 0 l48.length)] [(24, some (.arr 24 3 (l48.map cS24)))]) h ?_ ?_ <;> clear h
  ·intro o h
   refine AW.block ?_
   refine AW.iter (fun ((l34, v35) : ((List S24) × Int)) => mk 36 [] [(6, .ref 24 0 l34.length), (25, .d (.sl (a0.map (cL cS24)))), (26, .d (.lit (.int .i64 (a0.length : Int)))), (27, .d (.lit (.int .i64 v35)))] [(24, some (.arr 24 3 (l34.map cS24)))]) h Sub.tt ?_
   clear h
   rintro ⟨l34, v35⟩ x h
   dsimp only at h ⊢
   refine AW.seqR ?_
   refine Chain.runK [] 1 fun K hK => ?_; simp; refine hK _ _ ?_; clear hK K
   refine Chain.sub (S' := mk 36 [] [(6, .ref 24 0 l34.length), (25, .d (.sl (a0.map (cL cS24)))), (26, .d (.lit (.int .i64 (a0.length : Int)))), (27, .d (.lit (.int .i64 v35))), (28, .d (.lit (.bool (decide (v35 < (a0.length : Int))))))] [(24, some (.arr 24 3 (l34.map cS24)))]) Sub.tt ?_
   refine Chain.nil ?_
   refine AW.seq ?_
   replace h := isome h; rcases h with ⟨c49, h⟩ | ⟨c49, h⟩
   ·have c49_ : decide (v35 < (a0.length : Int)) = true := decide_eq_true c49
    refine AW.condT (b := decide (v35 < (a0.length : Int))) rfl c49_ ?_
    refine AW.sub (Sub.bool 28 (b := decide (v35 < (a0.length : Int))) rfl c49_) ?_
    refine AW.sub (S' := mk 36 [] [(6, .ref 24 0 l34.length), (25, .d (.sl (a0.map (cL cS24)))), (26, .d (.lit (.int .i64 (a0.length : Int)))), (27, .d (.lit (.int .i64 v35))), (28, .d (.lit (.bool true)))] [(24, some (.arr 24 3 (l34.map cS24)))]) (by simp; exact Sub.table (by simp) (by simp)) ?_
    refine AW.skip ?_
    refine thenQ_normal ?_
    refine AW.seq ?_
    refine AW.block ?_
    refine AW.seqR ?_
    replace h := bsome h; obtain ⟨x50, hx50, h⟩ := h
    obtain ⟨k51, hx50k, hx50, hx50a, hx50b⟩ := idx_some hx50
    refine Chain.runK [] 3 fun K hK => ?_; simp [hx50, hx50k, hx50a]; refine hK _ _ ?_; clear hK K
    refine Chain.sub (S' := mk 36 [] [(6, .ref 24 0 l34.length), (8, .d (.sl (x50.map cS24))), (25, .d (.sl (a0.map (cL cS24)))), (26, .d (.lit (.int .i64 (a0.length : Int)))), (27, .d (.lit (.int .i64 v35)))] [(24, some (.arr 24 3 (l34.map cS24)))]) Sub.tt ?_
    refine Chain.nil ?_
    refine AW.region ?_
    replace h := bsome h; obtain ⟨l52, hl52, h⟩ := h
    obtain ⟨hl52a, hl52⟩ := appL_some hl52
    subst hl52
    try simp only [List.length_append, List.length_cons, List.length_nil, Nat.zero_add] at hl52a
    refine Chain.runK [] 4 fun K hK => ?_; simp [hl52a]; refine hK _ _ ?_; clear hK K
    refine Chain.sub (S' := mk 36 [] [(6, .ref 24 0 ((l34 ++ x50).length)), (25, .d (.sl (a0.map (cL cS24)))), (26, .d (.lit (.int .i64 (a0.length : Int)))), (27, .d (.lit (.int .i64 v35)))] [(24, some (.arr 24 3 ((l34 ++ x50).map cS24)))]) Sub.tt ?_
    refine Chain.nil ?_
    refine blockQ.normal ?_
    refine thenQ_normal ?_
    refine AW.region ?_
    replace h := bsome h; obtain ⟨v53, hv53, h⟩ := h
    have hv53 := chkI_some hv53
    refine Chain.runK [] 2 fun K hK => ?_; simp [hv53]; refine hK _ _ ?_; clear hK K
    refine Chain.sub (S' := mk 36 [] [(6, .ref 24 0 ((l34 ++ x50).length)), (25, .d (.sl (a0.map (cL cS24)))), (26, .d (.lit (.int .i64 (a0.length : Int)))), (27, .d (.lit (.int .i64 v53)))] [(24, some (.arr 24 3 ((l34 ++ x50).map cS24)))]) Sub.tt ?_
    refine Chain.nil ?_
    cases h
    refine PostI.next ?_
    exact Sub.tt
   ·have c49_ : decide (v35 < (a0.length : Int)) = false := decide_eq_false c49
    refine AW.condF (b := decide (v35 < (a0.length : Int))) rfl c49_ ?_
    refine AW.sub (Sub.bool 28 (b := decide (v35 < (a0.length : Int))) rfl c49_) ?_
    refine AW.sub (S' := mk 36 [] [(6, .ref 24 0 l34.length), (25, .d (.sl (a0.map (cL cS24)))), (26, .d (.lit (.int .i64 (a0.length : Int)))), (27, .d (.lit (.int .i64 v35))), (28, .d (.lit (.bool false)))] [(24, some (.arr 24 3 (l34.map cS24)))]) (by simp; exact Sub.table (by simp) (by simp)) ?_
    refine AW.exit ?_
    cases h
    refine thenQ_pass (by simp) ?_
    refine PostI.out (by simp) ?_
    rintro rfl
    refine blockQ.hit ?_
    refine PostN.next ?_
    exact Sub.tt
  ·rintro l48 h
   refine thenQ_normal ?_
   refine AW.seqR ?_
   refine Chain.runK [] 2 fun K hK => ?_; simp; refine hK _ _ ?_; clear hK K
   refine Chain.sub (S' := mk 36 [] [(2, .ref 24 0 l48.length)] [(24, some (.arr 24 3 (l48.map cS24)))]) Sub.tt ?_
   refine Chain.nil ?_
   refine AW.sub (Sub.freeze 24 rfl) ?_
   refine AW.sub (S' := mk 36 [] [(2, .d (.sl (l48.map cS24)))] []) (by simp; exact Sub.table (by simp) (by simp)) ?_
   refine AW.ret ?_
   cases h
   exact FinC.ret (by simp) (by simp)

/-- stemma/stemref3.Valid -/
def d10 (_N : Nat) (a0 : S24) : Option Bool :=
 if (a0.Kind == 1) then (
  Option.bind (α := Bool) (
   if (beqS24 a0 (S24.mk a0.Kind a0.Int (ByteArray.mk #[]))) = true then (
    if (-1000000000000) ≤ a0.Int then (
     some (decide (a0.Int ≤ 1000000000000))
    ) else
    some false
   ) else
   some false
  ) fun (v4 : Bool) =>
  some v4
 ) else
 if (a0.Kind == 2) then (
  Option.bind (α := Bool) (
   if (beqS24 a0 (S24.mk a0.Kind a0.Int (ByteArray.mk #[]))) = true then (
    if (a0.Int == 0) then (
     some true
    ) else
    some (a0.Int == 1)
   ) else
   some false
  ) fun (v10 : Bool) =>
  some v10
 ) else
 if (a0.Kind == 3) then (
  Option.bind (α := Bool) (
   if (beqS24 a0 (S24.mk a0.Kind 0 a0.Text)) = true then (
    some (decide ((a0.Text.size : Int) ≤ 24))
   ) else
   some false
  ) fun (v15 : Bool) =>
  some v15
 ) else
 some (beqS24 a0 (S24.mk 0 0 (ByteArray.mk #[])))
set_option maxRecDepth 100000 in
set_option maxHeartbeats 4000000 in
theorem p10 (N : Nat) (a0 : S24) (r : Bool) (h : d10 N a0 = some r) : FunC Try.prog 10 [.agg [.d (.lit (.int .i64 a0.Kind)), .d (.lit (.int .i64 a0.Int)), .d (.lit (.string a0.Text))]] (.d (.lit (.bool r))) := by
 unfold d10 at h
 refine FunC.enter 62 [(0, .agg [.d (.lit (.int .i64 a0.Kind)), .d (.lit (.int .i64 a0.Int)), .d (.lit (.string a0.Text))])] (by simp) Try.func10 rfl (of_decide_eq_true rfl) rfl rfl ?_
 refine AW.seqR ?_
 refine Chain.runK [] 2 fun K hK => ?_; simp; refine hK _ _ ?_; clear hK K
 refine Chain.sub (S' := mk 62 [] [(1, .ptr 1 0 0)] [(1, some (.box [.d (.lit (.int .i64 a0.Kind)), .d (.lit (.int .i64 a0.Int)), .d (.lit (.string a0.Text))]))]) Sub.tt ?_
 refine Chain.nil ?_
 refine AW.seqR ?_
 refine Chain.runK [] 5 fun K hK => ?_; simp; refine hK _ _ ?_; clear hK K
 refine Chain.sub (S' := mk 62 [] [(1, .ptr 1 0 0), (3, .ptr 3 0 0)] [(1, some (.box [.d (.lit (.int .i64 a0.Kind)), .d (.lit (.int .i64 a0.Int)), .d (.lit (.string a0.Text))])), (3, some (.box [.d (.lit (.int .i64 a0.Kind)), .d (.lit (.int .i64 0)), .d (.lit (.string (ByteArray.mk #[])))]))]) Sub.tt ?_
 refine Chain.nil ?_
 refine AW.seq ?_
 refine AW.seqR ?_
 refine Chain.runK [] 2 fun K hK => ?_; simp; refine hK _ _ ?_; clear hK K
 refine Chain.sub (S' := mk 62 [] [(1, .ptr 1 0 0), (3, .ptr 3 0 0), (8, .d (.lit (.int .i64 a0.Kind)))] [(1, some (.box [.d (.lit (.int .i64 a0.Kind)), .d (.lit (.int .i64 a0.Int)), .d (.lit (.string a0.Text))])), (3, some (.box [.d (.lit (.int .i64 a0.Kind)), .d (.lit (.int .i64 0)), .d (.lit (.string (ByteArray.mk #[])))]))]) Sub.tt ?_
 refine Chain.nil ?_
 refine AW.block ?_
 refine AW.seqR ?_
 refine Chain.runK [] 2 fun K hK => ?_; simp; refine hK _ _ ?_; clear hK K
 refine Chain.sub (S' := mk 62 [] [(1, .ptr 1 0 0), (3, .ptr 3 0 0), (8, .d (.lit (.int .i64 a0.Kind))), (9, .d (.lit (.bool (a0.Kind == 1))))] [(1, some (.box [.d (.lit (.int .i64 a0.Kind)), .d (.lit (.int .i64 a0.Int)), .d (.lit (.string a0.Text))])), (3, some (.box [.d (.lit (.int .i64 a0.Kind)), .d (.lit (.int .i64 0)), .d (.lit (.string (ByteArray.mk #[])))]))]) Sub.tt ?_
 refine Chain.nil ?_
 replace h := isome h; rcases h with ⟨c1, h⟩ | ⟨c1, h⟩
 ·have c1_ : (a0.Kind == 1) = true := c1
  refine AW.condT (b := (a0.Kind == 1)) rfl c1_ ?_
  refine AW.sub (Sub.bool 9 (b := (a0.Kind == 1)) rfl c1_) ?_
  refine AW.sub (S' := mk 62 [] [(1, .ptr 1 0 0), (3, .ptr 3 0 0), (8, .d (.lit (.int .i64 a0.Kind))), (9, .d (.lit (.bool true)))] [(1, some (.box [.d (.lit (.int .i64 a0.Kind)), .d (.lit (.int .i64 a0.Int)), .d (.lit (.string a0.Text))])), (3, some (.box [.d (.lit (.int .i64 a0.Kind)), .d (.lit (.int .i64 0)), .d (.lit (.string (ByteArray.mk #[])))]))]) (by simp; exact Sub.table (by simp) (by simp)) ?_
  refine AW.seqR ?_
  refine Chain.runK [] 4 fun K hK => ?_; simp; refine hK _ _ ?_; clear hK K
  refine Chain.sub (S' := mk 62 [] [(1, .ptr 1 0 0), (3, .ptr 3 0 0)] [(1, some (.box [.d (.lit (.int .i64 a0.Kind)), .d (.lit (.int .i64 a0.Int)), .d (.lit (.string a0.Text))])), (3, some (.box [.d (.lit (.int .i64 a0.Kind)), .d (.lit (.int .i64 a0.Int)), .d (.lit (.string (ByteArray.mk #[])))]))]) Sub.tt ?_
  refine Chain.nil ?_
  replace h := bsome h; obtain ⟨v4, hj, h⟩ := h
  refine AW.cutR (mk 62 [] [(2, .d (.lit (.bool v4)))] []) ?_ ?_
  ·clear h; have h := hj; clear hj
   refine Chain.runK [] 2 fun K hK => ?_; simp; refine hK _ _ ?_; clear hK K
   refine Chain.sub (S' := mk 62 [] [(1, .ptr 1 0 0), (14, .agg [.d (.lit (.int .i64 a0.Kind)), .d (.lit (.int .i64 a0.Int)), .d (.lit (.string a0.Text))]), (15, .agg [.d (.lit (.int .i64 a0.Kind)), .d (.lit (.int .i64 a0.Int)), .d (.lit (.string (ByteArray.mk #[])))])] [(1, some (.box [.d (.lit (.int .i64 a0.Kind)), .d (.lit (.int .i64 a0.Int)), .d (.lit (.string a0.Text))]))]) Sub.tt ?_
   refine Chain.pureP (by simp) (pure_eqA false rfl rfl rfl rfl (by kernel_rfl) (eqv24 a0 (S24.mk a0.Kind a0.Int (ByteArray.mk #[])))) ?_
   refine Chain.sub (S' := mk 62 [] [(1, .ptr 1 0 0), (14, .agg [.d (.lit (.int .i64 a0.Kind)), .d (.lit (.int .i64 a0.Int)), .d (.lit (.string a0.Text))]), (15, .agg [.d (.lit (.int .i64 a0.Kind)), .d (.lit (.int .i64 a0.Int)), .d (.lit (.string (ByteArray.mk #[])))]), (16, .d (.lit (.bool (beqS24 a0 (S24.mk a0.Kind a0.Int (ByteArray.mk #[]))))))] [(1, some (.box [.d (.lit (.int .i64 a0.Kind)), .d (.lit (.int .i64 a0.Int)), .d (.lit (.string a0.Text))]))]) (by simp; exact Sub.table (by simp) (by simp)) ?_
   refine Chain.runK [] 1 fun K hK => ?_; simp; refine hK _ _ ?_; clear hK K
   refine Chain.sub (S' := mk 62 [] [(1, .ptr 1 0 0), (17, .d (.lit (.bool (beqS24 a0 (S24.mk a0.Kind a0.Int (ByteArray.mk #[]))))))] [(1, some (.box [.d (.lit (.int .i64 a0.Kind)), .d (.lit (.int .i64 a0.Int)), .d (.lit (.string a0.Text))]))]) Sub.tt ?_
   replace h := isome h; rcases h with ⟨c5, h⟩ | ⟨c5, h⟩
   ·have c5_ : (beqS24 a0 (S24.mk a0.Kind a0.Int (ByteArray.mk #[]))) = true := c5
    refine Chain.sub (Sub.bool 17 (b := (beqS24 a0 (S24.mk a0.Kind a0.Int (ByteArray.mk #[])))) rfl c5_) ?_
    refine Chain.sub (S' := mk 62 [] [(1, .ptr 1 0 0), (17, .d (.lit (.bool true)))] [(1, some (.box [.d (.lit (.int .i64 a0.Kind)), .d (.lit (.int .i64 a0.Int)), .d (.lit (.string a0.Text))]))]) (by simp; exact Sub.table (by simp) (by simp)) ?_
    refine Chain.runK [] 5 fun K hK => ?_; simp; refine hK _ _ ?_; clear hK K
    refine Chain.sub (S' := mk 62 [] [(1, .ptr 1 0 0), (22, .d (.lit (.bool (decide ((-1000000000000) ≤ a0.Int)))))] [(1, some (.box [.d (.lit (.int .i64 a0.Kind)), .d (.lit (.int .i64 a0.Int)), .d (.lit (.string a0.Text))]))]) Sub.tt ?_
    replace h := isome h; rcases h with ⟨c6, h⟩ | ⟨c6, h⟩
    ·have c6_ : decide ((-1000000000000) ≤ a0.Int) = true := decide_eq_true c6
     refine Chain.sub (Sub.bool 22 (b := decide ((-1000000000000) ≤ a0.Int)) rfl c6_) ?_
     refine Chain.sub (S' := mk 62 [] [(1, .ptr 1 0 0), (22, .d (.lit (.bool true)))] [(1, some (.box [.d (.lit (.int .i64 a0.Kind)), .d (.lit (.int .i64 a0.Int)), .d (.lit (.string a0.Text))]))]) (by simp; exact Sub.table (by simp) (by simp)) ?_
     refine Chain.runK [] 5 fun K hK => ?_; simp; refine hK _ _ ?_; clear hK K
     refine Chain.sub (S' := mk 62 [] [(2, .d (.lit (.bool (decide (a0.Int ≤ 1000000000000)))))] []) Sub.tt ?_
     cases h
     exact Chain.nil Sub.tt
    ·have c6_ : decide ((-1000000000000) ≤ a0.Int) = false := decide_eq_false c6
     refine Chain.sub (Sub.bool 22 (b := decide ((-1000000000000) ≤ a0.Int)) rfl c6_) ?_
     refine Chain.sub (S' := mk 62 [] [(1, .ptr 1 0 0), (22, .d (.lit (.bool false)))] [(1, some (.box [.d (.lit (.int .i64 a0.Kind)), .d (.lit (.int .i64 a0.Int)), .d (.lit (.string a0.Text))]))]) (by simp; exact Sub.table (by simp) (by simp)) ?_
     refine Chain.runK [] 5 fun K hK => ?_; simp; refine hK _ _ ?_; clear hK K
     refine Chain.sub (S' := mk 62 [] [(2, .d (.lit (.bool false)))] []) Sub.tt ?_
     cases h
     exact Chain.nil Sub.tt
   ·have c5_ : (beqS24 a0 (S24.mk a0.Kind a0.Int (ByteArray.mk #[]))) = false := Bool.eq_false_iff.2 c5
    refine Chain.sub (Sub.bool 17 (b := (beqS24 a0 (S24.mk a0.Kind a0.Int (ByteArray.mk #[])))) rfl c5_) ?_
    refine Chain.sub (S' := mk 62 [] [(1, .ptr 1 0 0), (17, .d (.lit (.bool false)))] [(1, some (.box [.d (.lit (.int .i64 a0.Kind)), .d (.lit (.int .i64 a0.Int)), .d (.lit (.string a0.Text))]))]) (by simp; exact Sub.table (by simp) (by simp)) ?_
    refine Chain.runK [] 10 fun K hK => ?_; simp; refine hK _ _ ?_; clear hK K
    refine Chain.sub (S' := mk 62 [] [(2, .d (.lit (.bool false)))] []) Sub.tt ?_
    cases h
    exact Chain.nil Sub.tt
  ·clear hj
   refine AW.ret ?_
   cases h
   refine blockQ.ret ?_
   refine thenQ_pass (by simp) ?_
   exact FinC.ret (by simp) (by simp)
 ·have c1_ : (a0.Kind == 1) = false := Bool.eq_false_iff.2 c1
  refine AW.condF (b := (a0.Kind == 1)) rfl c1_ ?_
  refine AW.sub (Sub.bool 9 (b := (a0.Kind == 1)) rfl c1_) ?_
  refine AW.sub (S' := mk 62 [] [(1, .ptr 1 0 0), (3, .ptr 3 0 0), (8, .d (.lit (.int .i64 a0.Kind))), (9, .d (.lit (.bool false)))] [(1, some (.box [.d (.lit (.int .i64 a0.Kind)), .d (.lit (.int .i64 a0.Int)), .d (.lit (.string a0.Text))])), (3, some (.box [.d (.lit (.int .i64 a0.Kind)), .d (.lit (.int .i64 0)), .d (.lit (.string (ByteArray.mk #[])))]))]) (by simp; exact Sub.table (by simp) (by simp)) ?_
  refine AW.seqR ?_
  refine Chain.runK [] 2 fun K hK => ?_; simp; refine hK _ _ ?_; clear hK K
  refine Chain.sub (S' := mk 62 [] [(1, .ptr 1 0 0), (3, .ptr 3 0 0), (8, .d (.lit (.int .i64 a0.Kind))), (27, .d (.lit (.bool (a0.Kind == 2))))] [(1, some (.box [.d (.lit (.int .i64 a0.Kind)), .d (.lit (.int .i64 a0.Int)), .d (.lit (.string a0.Text))])), (3, some (.box [.d (.lit (.int .i64 a0.Kind)), .d (.lit (.int .i64 0)), .d (.lit (.string (ByteArray.mk #[])))]))]) Sub.tt ?_
  refine Chain.nil ?_
  replace h := isome h; rcases h with ⟨c7, h⟩ | ⟨c7, h⟩
  ·have c7_ : (a0.Kind == 2) = true := c7
   refine AW.condT (b := (a0.Kind == 2)) rfl c7_ ?_
   refine AW.sub (Sub.bool 27 (b := (a0.Kind == 2)) rfl c7_) ?_
   refine AW.sub (S' := mk 62 [] [(1, .ptr 1 0 0), (3, .ptr 3 0 0), (8, .d (.lit (.int .i64 a0.Kind))), (27, .d (.lit (.bool true)))] [(1, some (.box [.d (.lit (.int .i64 a0.Kind)), .d (.lit (.int .i64 a0.Int)), .d (.lit (.string a0.Text))])), (3, some (.box [.d (.lit (.int .i64 a0.Kind)), .d (.lit (.int .i64 0)), .d (.lit (.string (ByteArray.mk #[])))]))]) (by simp; exact Sub.table (by simp) (by simp)) ?_
   refine AW.seqR ?_
   refine Chain.runK [] 4 fun K hK => ?_; simp; refine hK _ _ ?_; clear hK K
   refine Chain.sub (S' := mk 62 [] [(1, .ptr 1 0 0), (3, .ptr 3 0 0)] [(1, some (.box [.d (.lit (.int .i64 a0.Kind)), .d (.lit (.int .i64 a0.Int)), .d (.lit (.string a0.Text))])), (3, some (.box [.d (.lit (.int .i64 a0.Kind)), .d (.lit (.int .i64 a0.Int)), .d (.lit (.string (ByteArray.mk #[])))]))]) Sub.tt ?_
   refine Chain.nil ?_
   replace h := bsome h; obtain ⟨v10, hj, h⟩ := h
   refine AW.cutR (mk 62 [] [(2, .d (.lit (.bool v10)))] []) ?_ ?_
   ·clear h; have h := hj; clear hj
    refine Chain.runK [] 2 fun K hK => ?_; simp; refine hK _ _ ?_; clear hK K
    refine Chain.sub (S' := mk 62 [] [(1, .ptr 1 0 0), (32, .agg [.d (.lit (.int .i64 a0.Kind)), .d (.lit (.int .i64 a0.Int)), .d (.lit (.string a0.Text))]), (33, .agg [.d (.lit (.int .i64 a0.Kind)), .d (.lit (.int .i64 a0.Int)), .d (.lit (.string (ByteArray.mk #[])))])] [(1, some (.box [.d (.lit (.int .i64 a0.Kind)), .d (.lit (.int .i64 a0.Int)), .d (.lit (.string a0.Text))]))]) Sub.tt ?_
    refine Chain.pureP (by simp) (pure_eqA false rfl rfl rfl rfl (by kernel_rfl) (eqv24 a0 (S24.mk a0.Kind a0.Int (ByteArray.mk #[])))) ?_
    refine Chain.sub (S' := mk 62 [] [(1, .ptr 1 0 0), (32, .agg [.d (.lit (.int .i64 a0.Kind)), .d (.lit (.int .i64 a0.Int)), .d (.lit (.string a0.Text))]), (33, .agg [.d (.lit (.int .i64 a0.Kind)), .d (.lit (.int .i64 a0.Int)), .d (.lit (.string (ByteArray.mk #[])))]), (34, .d (.lit (.bool (beqS24 a0 (S24.mk a0.Kind a0.Int (ByteArray.mk #[]))))))] [(1, some (.box [.d (.lit (.int .i64 a0.Kind)), .d (.lit (.int .i64 a0.Int)), .d (.lit (.string a0.Text))]))]) (by simp; exact Sub.table (by simp) (by simp)) ?_
    refine Chain.runK [] 1 fun K hK => ?_; simp; refine hK _ _ ?_; clear hK K
    refine Chain.sub (S' := mk 62 [] [(1, .ptr 1 0 0), (35, .d (.lit (.bool (beqS24 a0 (S24.mk a0.Kind a0.Int (ByteArray.mk #[]))))))] [(1, some (.box [.d (.lit (.int .i64 a0.Kind)), .d (.lit (.int .i64 a0.Int)), .d (.lit (.string a0.Text))]))]) Sub.tt ?_
    replace h := isome h; rcases h with ⟨c11, h⟩ | ⟨c11, h⟩
    ·have c11_ : (beqS24 a0 (S24.mk a0.Kind a0.Int (ByteArray.mk #[]))) = true := c11
     refine Chain.sub (Sub.bool 35 (b := (beqS24 a0 (S24.mk a0.Kind a0.Int (ByteArray.mk #[])))) rfl c11_) ?_
     refine Chain.sub (S' := mk 62 [] [(1, .ptr 1 0 0), (35, .d (.lit (.bool true)))] [(1, some (.box [.d (.lit (.int .i64 a0.Kind)), .d (.lit (.int .i64 a0.Int)), .d (.lit (.string a0.Text))]))]) (by simp; exact Sub.table (by simp) (by simp)) ?_
     refine Chain.runK [] 4 fun K hK => ?_; simp; refine hK _ _ ?_; clear hK K
     refine Chain.sub (S' := mk 62 [] [(1, .ptr 1 0 0), (35, .d (.lit (.bool true))), (39, .d (.lit (.bool (a0.Int == 0))))] [(1, some (.box [.d (.lit (.int .i64 a0.Kind)), .d (.lit (.int .i64 a0.Int)), .d (.lit (.string a0.Text))]))]) Sub.tt ?_
     replace h := isome h; rcases h with ⟨c12, h⟩ | ⟨c12, h⟩
     ·have c12_ : (a0.Int == 0) = true := c12
      refine Chain.sub (Sub.bool 39 (b := (a0.Int == 0)) rfl c12_) ?_
      refine Chain.sub (S' := mk 62 [] [(1, .ptr 1 0 0), (35, .d (.lit (.bool true))), (39, .d (.lit (.bool true)))] [(1, some (.box [.d (.lit (.int .i64 a0.Kind)), .d (.lit (.int .i64 a0.Int)), .d (.lit (.string a0.Text))]))]) (by simp; exact Sub.table (by simp) (by simp)) ?_
      refine Chain.runK [] 6 fun K hK => ?_; simp; refine hK _ _ ?_; clear hK K
      refine Chain.sub (S' := mk 62 [] [(2, .d (.lit (.bool true)))] []) Sub.tt ?_
      cases h
      exact Chain.nil Sub.tt
     ·have c12_ : (a0.Int == 0) = false := Bool.eq_false_iff.2 c12
      refine Chain.sub (Sub.bool 39 (b := (a0.Int == 0)) rfl c12_) ?_
      refine Chain.sub (S' := mk 62 [] [(1, .ptr 1 0 0), (35, .d (.lit (.bool true))), (39, .d (.lit (.bool false)))] [(1, some (.box [.d (.lit (.int .i64 a0.Kind)), .d (.lit (.int .i64 a0.Int)), .d (.lit (.string a0.Text))]))]) (by simp; exact Sub.table (by simp) (by simp)) ?_
      refine Chain.runK [] 6 fun K hK => ?_; simp; refine hK _ _ ?_; clear hK K
      refine Chain.sub (S' := mk 62 [] [(2, .d (.lit (.bool (a0.Int == 1))))] []) Sub.tt ?_
      cases h
      exact Chain.nil Sub.tt
    ·have c11_ : (beqS24 a0 (S24.mk a0.Kind a0.Int (ByteArray.mk #[]))) = false := Bool.eq_false_iff.2 c11
     refine Chain.sub (Sub.bool 35 (b := (beqS24 a0 (S24.mk a0.Kind a0.Int (ByteArray.mk #[])))) rfl c11_) ?_
     refine Chain.sub (S' := mk 62 [] [(1, .ptr 1 0 0), (35, .d (.lit (.bool false)))] [(1, some (.box [.d (.lit (.int .i64 a0.Kind)), .d (.lit (.int .i64 a0.Int)), .d (.lit (.string a0.Text))]))]) (by simp; exact Sub.table (by simp) (by simp)) ?_
     refine Chain.runK [] 10 fun K hK => ?_; simp; refine hK _ _ ?_; clear hK K
     refine Chain.sub (S' := mk 62 [] [(2, .d (.lit (.bool false)))] []) Sub.tt ?_
     cases h
     exact Chain.nil Sub.tt
   ·clear hj
    refine AW.ret ?_
    cases h
    refine blockQ.ret ?_
    refine thenQ_pass (by simp) ?_
    exact FinC.ret (by simp) (by simp)
  ·have c7_ : (a0.Kind == 2) = false := Bool.eq_false_iff.2 c7
   refine AW.condF (b := (a0.Kind == 2)) rfl c7_ ?_
   refine AW.sub (Sub.bool 27 (b := (a0.Kind == 2)) rfl c7_) ?_
   refine AW.sub (S' := mk 62 [] [(1, .ptr 1 0 0), (3, .ptr 3 0 0), (8, .d (.lit (.int .i64 a0.Kind))), (27, .d (.lit (.bool false)))] [(1, some (.box [.d (.lit (.int .i64 a0.Kind)), .d (.lit (.int .i64 a0.Int)), .d (.lit (.string a0.Text))])), (3, some (.box [.d (.lit (.int .i64 a0.Kind)), .d (.lit (.int .i64 0)), .d (.lit (.string (ByteArray.mk #[])))]))]) (by simp; exact Sub.table (by simp) (by simp)) ?_
   refine AW.seqR ?_
   refine Chain.runK [] 2 fun K hK => ?_; simp; refine hK _ _ ?_; clear hK K
   refine Chain.sub (S' := mk 62 [] [(1, .ptr 1 0 0), (3, .ptr 3 0 0), (45, .d (.lit (.bool (a0.Kind == 3))))] [(1, some (.box [.d (.lit (.int .i64 a0.Kind)), .d (.lit (.int .i64 a0.Int)), .d (.lit (.string a0.Text))])), (3, some (.box [.d (.lit (.int .i64 a0.Kind)), .d (.lit (.int .i64 0)), .d (.lit (.string (ByteArray.mk #[])))]))]) Sub.tt ?_
   refine Chain.nil ?_
   replace h := isome h; rcases h with ⟨c13, h⟩ | ⟨c13, h⟩
   ·have c13_ : (a0.Kind == 3) = true := c13
    refine AW.condT (b := (a0.Kind == 3)) rfl c13_ ?_
    refine AW.sub (Sub.bool 45 (b := (a0.Kind == 3)) rfl c13_) ?_
    refine AW.sub (S' := mk 62 [] [(1, .ptr 1 0 0), (3, .ptr 3 0 0), (45, .d (.lit (.bool true)))] [(1, some (.box [.d (.lit (.int .i64 a0.Kind)), .d (.lit (.int .i64 a0.Int)), .d (.lit (.string a0.Text))])), (3, some (.box [.d (.lit (.int .i64 a0.Kind)), .d (.lit (.int .i64 0)), .d (.lit (.string (ByteArray.mk #[])))]))]) (by simp; exact Sub.table (by simp) (by simp)) ?_
    refine AW.seqR ?_
    refine Chain.runK [] 4 fun K hK => ?_; simp; refine hK _ _ ?_; clear hK K
    refine Chain.sub (S' := mk 62 [] [(1, .ptr 1 0 0), (3, .ptr 3 0 0)] [(1, some (.box [.d (.lit (.int .i64 a0.Kind)), .d (.lit (.int .i64 a0.Int)), .d (.lit (.string a0.Text))])), (3, some (.box [.d (.lit (.int .i64 a0.Kind)), .d (.lit (.int .i64 0)), .d (.lit (.string a0.Text))]))]) Sub.tt ?_
    refine Chain.nil ?_
    replace h := bsome h; obtain ⟨v15, hj, h⟩ := h
    refine AW.cutR (mk 62 [] [(2, .d (.lit (.bool v15)))] []) ?_ ?_
    ·clear h; have h := hj; clear hj
     refine Chain.runK [] 2 fun K hK => ?_; simp; refine hK _ _ ?_; clear hK K
     refine Chain.sub (S' := mk 62 [] [(1, .ptr 1 0 0), (50, .agg [.d (.lit (.int .i64 a0.Kind)), .d (.lit (.int .i64 a0.Int)), .d (.lit (.string a0.Text))]), (51, .agg [.d (.lit (.int .i64 a0.Kind)), .d (.lit (.int .i64 0)), .d (.lit (.string a0.Text))])] [(1, some (.box [.d (.lit (.int .i64 a0.Kind)), .d (.lit (.int .i64 a0.Int)), .d (.lit (.string a0.Text))]))]) Sub.tt ?_
     refine Chain.pureP (by simp) (pure_eqA false rfl rfl rfl rfl (by kernel_rfl) (eqv24 a0 (S24.mk a0.Kind 0 a0.Text))) ?_
     refine Chain.sub (S' := mk 62 [] [(1, .ptr 1 0 0), (50, .agg [.d (.lit (.int .i64 a0.Kind)), .d (.lit (.int .i64 a0.Int)), .d (.lit (.string a0.Text))]), (51, .agg [.d (.lit (.int .i64 a0.Kind)), .d (.lit (.int .i64 0)), .d (.lit (.string a0.Text))]), (52, .d (.lit (.bool (beqS24 a0 (S24.mk a0.Kind 0 a0.Text)))))] [(1, some (.box [.d (.lit (.int .i64 a0.Kind)), .d (.lit (.int .i64 a0.Int)), .d (.lit (.string a0.Text))]))]) (by simp; exact Sub.table (by simp) (by simp)) ?_
     refine Chain.runK [] 1 fun K hK => ?_; simp; refine hK _ _ ?_; clear hK K
     refine Chain.sub (S' := mk 62 [] [(1, .ptr 1 0 0), (53, .d (.lit (.bool (beqS24 a0 (S24.mk a0.Kind 0 a0.Text)))))] [(1, some (.box [.d (.lit (.int .i64 a0.Kind)), .d (.lit (.int .i64 a0.Int)), .d (.lit (.string a0.Text))]))]) Sub.tt ?_
     replace h := isome h; rcases h with ⟨c16, h⟩ | ⟨c16, h⟩
     ·have c16_ : (beqS24 a0 (S24.mk a0.Kind 0 a0.Text)) = true := c16
      refine Chain.sub (Sub.bool 53 (b := (beqS24 a0 (S24.mk a0.Kind 0 a0.Text))) rfl c16_) ?_
      refine Chain.sub (S' := mk 62 [] [(1, .ptr 1 0 0), (53, .d (.lit (.bool true)))] [(1, some (.box [.d (.lit (.int .i64 a0.Kind)), .d (.lit (.int .i64 a0.Int)), .d (.lit (.string a0.Text))]))]) (by simp; exact Sub.table (by simp) (by simp)) ?_
      refine Chain.runK [] 6 fun K hK => ?_; simp; refine hK _ _ ?_; clear hK K
      refine Chain.sub (S' := mk 62 [] [(2, .d (.lit (.bool (decide ((a0.Text.size : Int) ≤ 24)))))] []) Sub.tt ?_
      cases h
      exact Chain.nil Sub.tt
     ·have c16_ : (beqS24 a0 (S24.mk a0.Kind 0 a0.Text)) = false := Bool.eq_false_iff.2 c16
      refine Chain.sub (Sub.bool 53 (b := (beqS24 a0 (S24.mk a0.Kind 0 a0.Text))) rfl c16_) ?_
      refine Chain.sub (S' := mk 62 [] [(1, .ptr 1 0 0), (53, .d (.lit (.bool false)))] [(1, some (.box [.d (.lit (.int .i64 a0.Kind)), .d (.lit (.int .i64 a0.Int)), .d (.lit (.string a0.Text))]))]) (by simp; exact Sub.table (by simp) (by simp)) ?_
      refine Chain.runK [] 6 fun K hK => ?_; simp; refine hK _ _ ?_; clear hK K
      refine Chain.sub (S' := mk 62 [] [(2, .d (.lit (.bool false)))] []) Sub.tt ?_
      cases h
      exact Chain.nil Sub.tt
    ·clear hj
     refine AW.ret ?_
     cases h
     refine blockQ.ret ?_
     refine thenQ_pass (by simp) ?_
     exact FinC.ret (by simp) (by simp)
   ·have c13_ : (a0.Kind == 3) = false := Bool.eq_false_iff.2 c13
    refine AW.condF (b := (a0.Kind == 3)) rfl c13_ ?_
    refine AW.sub (Sub.bool 45 (b := (a0.Kind == 3)) rfl c13_) ?_
    refine AW.sub (S' := mk 62 [] [(1, .ptr 1 0 0), (3, .ptr 3 0 0), (45, .d (.lit (.bool false)))] [(1, some (.box [.d (.lit (.int .i64 a0.Kind)), .d (.lit (.int .i64 a0.Int)), .d (.lit (.string a0.Text))])), (3, some (.box [.d (.lit (.int .i64 a0.Kind)), .d (.lit (.int .i64 0)), .d (.lit (.string (ByteArray.mk #[])))]))]) (by simp; exact Sub.table (by simp) (by simp)) ?_
    refine AW.skip ?_
    refine blockQ.normal ?_
    refine thenQ_normal ?_
    refine AW.seqR ?_
    refine Chain.runK [] 2 fun K hK => ?_; simp; refine hK _ _ ?_; clear hK K
    refine Chain.sub (S' := mk 62 [] [(59, .agg [.d (.lit (.int .i64 a0.Kind)), .d (.lit (.int .i64 a0.Int)), .d (.lit (.string a0.Text))]), (60, .agg [.d (.lit (.int .i64 0)), .d (.lit (.int .i64 0)), .d (.lit (.string (ByteArray.mk #[])))])] []) Sub.tt ?_
    refine Chain.pureP (by simp) (pure_eqA false rfl rfl rfl rfl (by kernel_rfl) (eqv24 a0 (S24.mk 0 0 (ByteArray.mk #[])))) ?_
    refine Chain.sub (S' := mk 62 [] [(59, .agg [.d (.lit (.int .i64 a0.Kind)), .d (.lit (.int .i64 a0.Int)), .d (.lit (.string a0.Text))]), (60, .agg [.d (.lit (.int .i64 0)), .d (.lit (.int .i64 0)), .d (.lit (.string (ByteArray.mk #[])))]), (61, .d (.lit (.bool (beqS24 a0 (S24.mk 0 0 (ByteArray.mk #[]))))))] []) (by simp; exact Sub.table (by simp) (by simp)) ?_
    refine Chain.runK [] 1 fun K hK => ?_; simp; refine hK _ _ ?_; clear hK K
    refine Chain.sub (S' := mk 62 [] [(2, .d (.lit (.bool (beqS24 a0 (S24.mk 0 0 (ByteArray.mk #[]))))))] []) Sub.tt ?_
    refine Chain.nil ?_
    refine AW.ret ?_
    cases h
    exact FinC.ret (by simp) (by simp)

/-- stemma/stemlaw3.columnsOf -/
def d11 (N : Nat) (a0 : (List S24)) : Option (List S46) :=
 Option.bind (α := List S46) (
  iterN (σ := ((List S46) × Int)) (ρ := List S46) (fun ((l8, v9) : ((List S46) × Int)) =>
   if v9 < (a0.length : Int) then (
    (idx a0 v9).bind fun x30 =>
    (chkI (48 + v9)).bind fun v32 =>
    letv (IntKind.u8.wrap (v32)) fun v33 =>
    (catB (ByteArray.mk #[99]) (bstr [v33])).bind fun v34 =>
    (appL 32 l8 [(S46.mk v34 x30.Kind (x30.Kind == 0))]).bind fun _l35 =>
    (chkI (v9 + 1)).bind fun v36 =>
    some (.inl ((l8 ++ [(S46.mk v34 x30.Kind (x30.Kind == 0))]), v36))
   ) else
   some (.inr l8)
  ) N (([] : List S46), 0)
 ) fun (l28 : List S46) =>
 some l28
set_option maxRecDepth 100000 in
set_option maxHeartbeats 4000000 in
theorem p11 (N : Nat) (a0 : (List S24)) (r : (List S46)) (h : d11 N a0 = some r) : FunO Try.prog 11 [.d (.sl (a0.map cS24))] (.ref 0 0 r.length) (.arr 46 3 (r.map cS46)) := by
 unfold d11 at h
 refine FunO.enter 30 [(0, .d (.sl (a0.map cS24)))] Try.func11 rfl (of_decide_eq_true rfl) rfl rfl ?_
 refine AW.seqR ?_
 refine Chain.runK [] 1 fun K hK => ?_; simp; refine hK _ _ ?_; clear hK K
 refine Chain.sub (S' := mk 30 [] [(0, .d (.sl (a0.map cS24)))] []) Sub.tt ?_
 refine Chain.nil ?_
 refine AW.seqR ?_
 refine Chain.runK [] 1 fun K hK => ?_; simp; refine hK _ _ ?_; clear hK K
 refine Chain.sub (S' := mk 30 [] [(0, .d (.sl (a0.map cS24))), (3, .d (.lit (.slice none 0 0)))] []) Sub.tt ?_
 refine Chain.nil ?_
 refine AW.seq ?_
 refine AW.seqR ?_
 refine Chain.runK [] 3 fun K hK => ?_; simp; refine hK _ _ ?_; clear hK K
 refine Chain.sub (S' := mk 30 [] [(3, .d (.lit (.slice none 0 0))), (6, .d (.sl (a0.map cS24))), (7, .d (.lit (.int .i64 (a0.length : Int)))), (8, .d (.lit (.int .i64 0)))] []) Sub.tt ?_
 refine Chain.nil ?_
 refine AW.lastN (fun (l28 : List S46) => mk 30 [] [(3, .ref 27 0 l28.length)] [(27, some (.arr 46 3 (l28.map cS46)))]) h ?_ ?_ <;> clear h
 ·intro o h
  refine AW.block ?_
  refine AW.iter (fun ((l8, v9) : ((List S46) × Int)) => mk 30 [] [(3, .ref 27 0 l8.length), (6, .d (.sl (a0.map cS24))), (7, .d (.lit (.int .i64 (a0.length : Int)))), (8, .d (.lit (.int .i64 v9)))] [(27, some (.arr 46 3 (l8.map cS46)))]) h (Sub.trans (Sub.nilOwn (t := 3) (id := 27) (T := 46) (n := 3) rfl rfl (by decide)) (by simp; exact Sub.table (by simp) (by simp))) ?_
  clear h
  rintro ⟨l8, v9⟩ x h
  dsimp only at h ⊢
  refine AW.seqR ?_
  refine Chain.runK [] 1 fun K hK => ?_; simp; refine hK _ _ ?_; clear hK K
  refine Chain.sub (S' := mk 30 [] [(3, .ref 27 0 l8.length), (6, .d (.sl (a0.map cS24))), (7, .d (.lit (.int .i64 (a0.length : Int)))), (8, .d (.lit (.int .i64 v9))), (9, .d (.lit (.bool (decide (v9 < (a0.length : Int))))))] [(27, some (.arr 46 3 (l8.map cS46)))]) Sub.tt ?_
  refine Chain.nil ?_
  refine AW.seq ?_
  replace h := isome h; rcases h with ⟨c29, h⟩ | ⟨c29, h⟩
  ·have c29_ : decide (v9 < (a0.length : Int)) = true := decide_eq_true c29
   refine AW.condT (b := decide (v9 < (a0.length : Int))) rfl c29_ ?_
   refine AW.sub (Sub.bool 9 (b := decide (v9 < (a0.length : Int))) rfl c29_) ?_
   refine AW.sub (S' := mk 30 [] [(3, .ref 27 0 l8.length), (6, .d (.sl (a0.map cS24))), (7, .d (.lit (.int .i64 (a0.length : Int)))), (8, .d (.lit (.int .i64 v9))), (9, .d (.lit (.bool true)))] [(27, some (.arr 46 3 (l8.map cS46)))]) (by simp; exact Sub.table (by simp) (by simp)) ?_
   refine AW.skip ?_
   refine thenQ_normal ?_
   refine AW.seq ?_
   refine AW.block ?_
   refine AW.seqR ?_
   replace h := bsome h; obtain ⟨x30, hx30, h⟩ := h
   obtain ⟨k31, hx30k, hx30, hx30a, hx30b⟩ := idx_some hx30
   refine Chain.runK [] 6 fun K hK => ?_; simp [hx30, hx30k, hx30a]; refine hK _ _ ?_; clear hK K
   refine Chain.sub (S' := mk 30 [] [(3, .ref 27 0 l8.length), (4, .d (.lit (.int .i64 v9))), (5, .ptr 5 0 0), (6, .d (.sl (a0.map cS24))), (7, .d (.lit (.int .i64 (a0.length : Int)))), (8, .d (.lit (.int .i64 v9)))] [(5, some (.box [.d (.lit (.int .i64 x30.Kind)), .d (.lit (.int .i64 x30.Int)), .d (.lit (.string x30.Text))])), (27, some (.arr 46 3 (l8.map cS46)))]) Sub.tt ?_
   refine Chain.nil ?_
   refine AW.region ?_
   replace h := bsome h; obtain ⟨v32, hv32, h⟩ := h
   have hv32 := chkI_some hv32
   replace h := lsome h; obtain ⟨v33, hv33, h⟩ := h
   refine Chain.runK [17, 26] 5 fun K hK => ?_; simp [hv32, hv33]; refine hK _ _ ?_; clear hK K
   refine Chain.sub (S' := mk 30 [] [(5, .ptr 5 0 0), (6, .d (.sl (a0.map cS24))), (7, .d (.lit (.int .i64 (a0.length : Int)))), (8, .d (.lit (.int .i64 v9))), (13, .ref 27 0 l8.length), (17, .d (.sl ([v33].map (cI .u8))))] [(5, some (.box [.d (.lit (.int .i64 x30.Kind)), .d (.lit (.int .i64 x30.Int)), .d (.lit (.string x30.Text))])), (27, some (.arr 46 3 (l8.map cS46)))]) Sub.tt ?_
   refine Chain.pureP (by simp) (pure_b2s [v33] ty56 rfl ty9 rfl ty5 rfl rfl) ?_
   refine Chain.sub (S' := mk 30 [] [(5, .ptr 5 0 0), (6, .d (.sl (a0.map cS24))), (7, .d (.lit (.int .i64 (a0.length : Int)))), (8, .d (.lit (.int .i64 v9))), (13, .ref 27 0 l8.length), (17, .d (.sl ([v33].map (cI .u8)))), (18, .d (.lit (.string (bstr [v33]))))] [(5, some (.box [.d (.lit (.int .i64 x30.Kind)), .d (.lit (.int .i64 x30.Int)), .d (.lit (.string x30.Text))])), (27, some (.arr 46 3 (l8.map cS46)))]) (by simp; exact Sub.table (by simp) (by simp)) ?_
   replace h := bsome h; obtain ⟨v34, gv34, h⟩ := h
   obtain ⟨hv34a, hv34⟩ := catB_some gv34
   replace h := bsome h; obtain ⟨l35, hl35, h⟩ := h
   obtain ⟨hl35a, hl35⟩ := appL_some hl35
   subst hl35
   try simp only [List.length_cons, List.length_nil, Nat.zero_add] at hl35a
   refine Chain.runK [17, 26] 10 fun K hK => ?_; simp [hv34, hv34a, hl35a]; refine hK _ _ ?_; clear hK K
   refine Chain.sub (S' := mk 30 [] [(3, .ref 27 0 ((l8 ++ [(S46.mk v34 x30.Kind (x30.Kind == 0))]).length)), (6, .d (.sl (a0.map cS24))), (7, .d (.lit (.int .i64 (a0.length : Int)))), (8, .d (.lit (.int .i64 v9)))] [(27, some (.arr 46 3 ((l8 ++ [(S46.mk v34 x30.Kind (x30.Kind == 0))]).map cS46)))]) Sub.tt ?_
   refine Chain.nil ?_
   refine blockQ.normal ?_
   refine thenQ_normal ?_
   refine AW.region ?_
   replace h := bsome h; obtain ⟨v36, hv36, h⟩ := h
   have hv36 := chkI_some hv36
   refine Chain.runK [] 2 fun K hK => ?_; simp [hv36]; refine hK _ _ ?_; clear hK K
   refine Chain.sub (S' := mk 30 [] [(3, .ref 27 0 ((l8 ++ [(S46.mk v34 x30.Kind (x30.Kind == 0))]).length)), (6, .d (.sl (a0.map cS24))), (7, .d (.lit (.int .i64 (a0.length : Int)))), (8, .d (.lit (.int .i64 v36)))] [(27, some (.arr 46 3 ((l8 ++ [(S46.mk v34 x30.Kind (x30.Kind == 0))]).map cS46)))]) Sub.tt ?_
   refine Chain.nil ?_
   cases h
   refine PostI.next ?_
   exact Sub.tt
  ·have c29_ : decide (v9 < (a0.length : Int)) = false := decide_eq_false c29
   refine AW.condF (b := decide (v9 < (a0.length : Int))) rfl c29_ ?_
   refine AW.sub (Sub.bool 9 (b := decide (v9 < (a0.length : Int))) rfl c29_) ?_
   refine AW.sub (S' := mk 30 [] [(3, .ref 27 0 l8.length), (6, .d (.sl (a0.map cS24))), (7, .d (.lit (.int .i64 (a0.length : Int)))), (8, .d (.lit (.int .i64 v9))), (9, .d (.lit (.bool false)))] [(27, some (.arr 46 3 (l8.map cS46)))]) (by simp; exact Sub.table (by simp) (by simp)) ?_
   refine AW.exit ?_
   cases h
   refine thenQ_pass (by simp) ?_
   refine PostI.out (by simp) ?_
   rintro rfl
   refine blockQ.hit ?_
   refine PostN.next ?_
   exact Sub.tt
 ·rintro l28 h
  refine thenQ_normal ?_
  refine AW.seqR ?_
  refine Chain.runK [] 2 fun K hK => ?_; simp; refine hK _ _ ?_; clear hK K
  refine Chain.sub (S' := mk 30 [] [(2, .ref 27 0 l28.length)] [(27, some (.arr 46 3 (l28.map cS46)))]) Sub.tt ?_
  refine Chain.nil ?_
  refine AW.ret ?_
  obtain rfl := Option.some.inj h
  exact FinO.ret (.ref 27 0 l28.length) 27 (by simp) (by simp) (by simp) (by simp) rfl

end Go.Proofs.Ytacafkegbgmnoaa
