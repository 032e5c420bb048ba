/- Functions of the program as functional programs; the code computes them. -/
import Derived.Test.YtifcmomjjkbboacMv7
namespace Go.Proofs.Ytifcmomjjkbboac
open Go.Ab Go.Rp
attribute [-simp] List.all_eq_true Array.all_toList Array.all_eq_true

/-- slices.EqualFunc[[]stemma/mvcc.Record,[]stemma/mvcc.Record,stemma/mvcc.Record,stemma/mvcc.Record] -/
def d30 (N : Nat) (a0 : (List S79)) (a1 : (List S79)) (p2 : S79 → S79 → Option Bool) : Option Bool :=
 if ((a0.length : Int) != (a1.length : Int)) then (
  some false
 ) else
 bindO (β := Unit) (ρ := Bool) (
  iterN (σ := Int) (ρ := (Out Unit Bool)) (fun (v8 : Int) =>
   if v8 < (a0.length : Int) then (
    (idx a0 v8).bind fun x25 =>
    (idx a1 v8).bind fun x27 =>
    (p2 x25 x27).bind fun r28 =>
    if (!r28) = true then (
     some (.inr (.ret false))
    ) else
    (chkI (v8 + 1)).bind fun v30 =>
    some (.inl v30)
   ) else
   some (.inr (.go ()))
  ) N 0
 ) fun (_ : Unit) =>
 some true
set_option maxRecDepth 100000 in
set_option maxHeartbeats 4000000 in
theorem p30 (N : Nat) (a0 : (List S79)) (a1 : (List S79)) (g2 : Nat) (cs2 : List D) (p2 : S79 → S79 → Option Bool) (ent_2 : Rp.Enters Try.prog g2) (hp2 : ∀ a0 a1 r, p2 a0 a1 = some r → FunC Try.prog g2 ([.agg [.d (.lit (.string a0.Key)), .d (.sl (a0.Row.map cS53))], .agg [.d (.lit (.string a1.Key)), .d (.sl (a1.Row.map cS53))]] ++ cs2.map .d) (.b r)) (r : Bool) (h : d30 N a0 a1 p2 = some r) : FunC Try.prog 30 [.d (.sl (a0.map cS79)), .d (.sl (a1.map cS79)), .fn (.func g2) (cs2.map .d)] (.b r) := by
 unfold d30 at h
 refine FunC.enter 32 [(0, .d (.sl (a0.map cS79))), (1, .d (.sl (a1.map cS79))), (2, .fn (.func g2) (cs2.map .d))] (by simp) Try.func30 rfl (of_decide_eq_true rfl) rfl rfl ?_
 refine AW.seqR ?_
 refine Chain.runK [] 1 fun K hK => ?_; simp; refine hK _ _ ?_; clear hK K
 refine Chain.sub (S' := mk 32 [] [(0, .d (.sl (a0.map cS79))), (1, .d (.sl (a1.map cS79))), (2, .fn (.func g2) (cs2.map .d))] []) Sub.tt ?_
 refine Chain.nil ?_
 refine AW.seq ?_
 refine AW.seqR ?_
 refine Chain.runK [] 5 fun K hK => ?_; simp; refine hK _ _ ?_; clear hK K
 refine Chain.sub (S' := mk 32 [] [(0, .d (.sl (a0.map cS79))), (1, .d (.sl (a1.map cS79))), (2, .fn (.func g2) (cs2.map .d)), (14, .b ((a0.length : Int) != (a1.length : Int)))] []) Sub.tt ?_
 refine Chain.nil ?_
 replace h := isome h; rcases h with ⟨c1, h⟩ | ⟨c1, h⟩
 ·have c1_ : ((a0.length : Int) != (a1.length : Int)) = true := c1
  refine AW.condT (b := ((a0.length : Int) != (a1.length : Int))) rfl c1_ ?_
  refine AW.sub (Sub.bool 14 (b := ((a0.length : Int) != (a1.length : Int))) rfl c1_) ?_
  refine AW.sub (S' := mk 32 [] [(0, .d (.sl (a0.map cS79))), (1, .d (.sl (a1.map cS79))), (2, .fn (.func g2) (cs2.map .d)), (14, .b true)] []) (by simp; exact Sub.table (by simp) (by simp)) ?_
  refine AW.seqR ?_
  refine Chain.runK [] 1 fun K hK => ?_; simp; refine hK _ _ ?_; clear hK K
  refine Chain.sub (S' := mk 32 [] [(6, .b false)] []) Sub.tt ?_
  refine Chain.nil ?_
  refine AW.ret ?_
  cases h
  refine thenQ_pass (by simp) ?_
  exact FinC.ret (by simp) (by simp)
 ·have c1_ : ((a0.length : Int) != (a1.length : Int)) = false := Bool.eq_false_iff.2 c1
  refine AW.condF (b := ((a0.length : Int) != (a1.length : Int))) rfl c1_ ?_
  refine AW.sub (Sub.bool 14 (b := ((a0.length : Int) != (a1.length : Int))) rfl c1_) ?_
  refine AW.sub (S' := mk 32 [] [(0, .d (.sl (a0.map cS79))), (1, .d (.sl (a1.map cS79))), (2, .fn (.func g2) (cs2.map .d)), (14, .b false)] []) (by simp; exact Sub.table (by simp) (by simp)) ?_
  refine AW.skip ?_
  refine thenQ_normal ?_
  refine AW.seq ?_
  refine AW.seqR ?_
  refine Chain.runK [] 3 fun K hK => ?_; simp; refine hK _ _ ?_; clear hK K
  refine Chain.sub (S' := mk 32 [] [(1, .d (.sl (a1.map cS79))), (2, .fn (.func g2) (cs2.map .d)), (15, .d (.sl (a0.map cS79))), (16, .i (a0.length : Int)), (17, .i 0)] []) Sub.tt ?_
  refine Chain.nil ?_
  refine AW.lastJ (fun (_ : Unit) => mk 32 [] [] []) h ?_ ?_ <;> clear h
  ·intro o h
   refine AW.block ?_
   refine AW.iter (fun (v8 : Int) => mk 32 [] [(1, .d (.sl (a1.map cS79))), (2, .fn (.func g2) (cs2.map .d)), (15, .d (.sl (a0.map cS79))), (16, .i (a0.length : Int)), (17, .i v8)] []) h Sub.tt ?_
   clear h
   rintro v8 x h
   refine AW.seqR ?_
   refine Chain.runK [] 1 fun K hK => ?_; simp; refine hK _ _ ?_; clear hK K
   refine Chain.sub (S' := mk 32 [] [(1, .d (.sl (a1.map cS79))), (2, .fn (.func g2) (cs2.map .d)), (15, .d (.sl (a0.map cS79))), (16, .i (a0.length : Int)), (17, .i v8), (18, .b (decide (v8 < (a0.length : Int))))] []) Sub.tt ?_
   refine Chain.nil ?_
   refine AW.seq ?_
   replace h := isome h; rcases h with ⟨c24, h⟩ | ⟨c24, h⟩
   ·have c24_ : decide (v8 < (a0.length : Int)) = true := decide_eq_true c24
    refine AW.condT (b := decide (v8 < (a0.length : Int))) rfl c24_ ?_
    refine AW.sub (Sub.bool 18 (b := decide (v8 < (a0.length : Int))) rfl c24_) ?_
    refine AW.sub (S' := mk 32 [] [(1, .d (.sl (a1.map cS79))), (2, .fn (.func g2) (cs2.map .d)), (15, .d (.sl (a0.map cS79))), (16, .i (a0.length : Int)), (17, .i v8), (18, .b true)] []) (by simp; exact Sub.table (by simp) (by simp)) ?_
    refine AW.skip ?_
    refine thenQ_normal ?_
    refine AW.seq ?_
    refine AW.block ?_
    refine AW.seqR ?_
    replace h := bsome h; obtain ⟨x25, hx25, h⟩ := h
    obtain ⟨k26, hx25k, hx25, hx25a, hx25b⟩ := idx_some hx25
    refine Chain.runK [] 6 fun K hK => ?_; simp [hx25, hx25k, hx25a]; refine hK _ _ ?_; clear hK K
    refine Chain.sub (S' := mk 32 [] [(1, .d (.sl (a1.map cS79))), (2, .fn (.func g2) (cs2.map .d)), (7, .i v8), (8, .ptr 8 0 0), (15, .d (.sl (a0.map cS79))), (16, .i (a0.length : Int)), (17, .i v8)] [(8, some (.box [.d (.lit (.string x25.Key)), .d (.sl (x25.Row.map cS53))]))]) Sub.tt ?_
    refine Chain.nil ?_
    refine AW.seqR ?_
    replace h := bsome h; obtain ⟨x27, hx27, h⟩ := h
    obtain ⟨hx27, hx27a, hx27b⟩ := idx_some2 hx27 hx25k
    refine Chain.runK [] 6 fun K hK => ?_; simp [hx27, hx25k, hx27a]; refine hK _ _ ?_; clear hK K
    refine Chain.sub (S' := mk 32 [] [(1, .d (.sl (a1.map cS79))), (2, .fn (.func g2) (cs2.map .d)), (8, .ptr 8 0 0), (9, .ptr 9 0 0), (15, .d (.sl (a0.map cS79))), (16, .i (a0.length : Int)), (17, .i v8)] [(8, some (.box [.d (.lit (.string x25.Key)), .d (.sl (x25.Row.map cS53))])), (9, some (.box [.d (.lit (.string x27.Key)), .d (.sl (x27.Row.map cS53))]))]) Sub.tt ?_
    refine Chain.nil ?_
    refine AW.seqR ?_
    refine Chain.runK [] 3 fun K hK => ?_; simp; refine hK _ _ ?_; clear hK K
    refine Chain.sub (S' := mk 32 [] [(1, .d (.sl (a1.map cS79))), (2, .fn (.func g2) (cs2.map .d)), (15, .d (.sl (a0.map cS79))), (16, .i (a0.length : Int)), (17, .i v8), (26, .fn (.func g2) (cs2.map .d)), (27, .agg [.d (.lit (.string x25.Key)), .d (.sl (x25.Row.map cS53))]), (28, .agg [.d (.lit (.string x27.Key)), .d (.sl (x27.Row.map cS53))])] []) Sub.tt ?_
    replace h := bsome h; obtain ⟨r28, hr28, h⟩ := h
    refine Chain.callL (d := 29) (hp2 x25 x27 r28 hr28) (by simp) rfl rfl (by simp <;> rfl) (by simp <;> rfl) ent_2 (by simp <;> rfl) ?_
    refine Chain.sub (S' := mk 32 [] [(1, .d (.sl (a1.map cS79))), (2, .fn (.func g2) (cs2.map .d)), (15, .d (.sl (a0.map cS79))), (16, .i (a0.length : Int)), (17, .i v8), (26, .fn (.func g2) (cs2.map .d)), (27, .agg [.d (.lit (.string x25.Key)), .d (.sl (x25.Row.map cS53))]), (28, .agg [.d (.lit (.string x27.Key)), .d (.sl (x27.Row.map cS53))]), (29, .b r28)] []) (by simp; exact Sub.table (by simp) (by simp)) ?_
    refine Chain.runK [] 1 fun K hK => ?_; simp; refine hK _ _ ?_; clear hK K
    refine Chain.sub (S' := mk 32 [] [(1, .d (.sl (a1.map cS79))), (2, .fn (.func g2) (cs2.map .d)), (15, .d (.sl (a0.map cS79))), (16, .i (a0.length : Int)), (17, .i v8), (30, .b (!r28))] []) Sub.tt ?_
    refine Chain.nil ?_
    replace h := isome h; rcases h with ⟨c29, h⟩ | ⟨c29, h⟩
    ·have c29_ : (!r28) = true := c29
     refine AW.condT (b := (!r28)) rfl c29_ ?_
     refine AW.sub (Sub.bool 30 (b := (!r28)) rfl c29_) ?_
     refine AW.sub (S' := mk 32 [] [(1, .d (.sl (a1.map cS79))), (2, .fn (.func g2) (cs2.map .d)), (15, .d (.sl (a0.map cS79))), (16, .i (a0.length : Int)), (17, .i v8), (30, .b true)] []) (by simp; exact Sub.table (by simp) (by simp)) ?_
     refine AW.seqR ?_
     refine Chain.runK [] 1 fun K hK => ?_; simp; refine hK _ _ ?_; clear hK K
     refine Chain.sub (S' := mk 32 [] [(6, .b false)] []) Sub.tt ?_
     refine Chain.nil ?_
     refine AW.ret ?_
     cases h
     refine blockQ.ret ?_
     refine thenQ_pass (by simp) ?_
     refine PostI.out (by simp) ?_
     rintro rfl
     refine blockQ.ret ?_
     refine PostJ.out (by simp) ?_
     rintro rfl
     refine thenQ_pass (by simp) ?_
     exact FinC.ret (by simp) (by simp)
    ·have c29_ : (!r28) = false := Bool.eq_false_iff.2 c29
     refine AW.condF (b := (!r28)) rfl c29_ ?_
     refine AW.sub (Sub.bool 30 (b := (!r28)) rfl c29_) ?_
     refine AW.sub (S' := mk 32 [] [(1, .d (.sl (a1.map cS79))), (2, .fn (.func g2) (cs2.map .d)), (15, .d (.sl (a0.map cS79))), (16, .i (a0.length : Int)), (17, .i v8), (30, .b false)] []) (by simp; exact Sub.table (by simp) (by simp)) ?_
     refine AW.skip ?_
     refine blockQ.normal ?_
     refine thenQ_normal ?_
     refine AW.region ?_
     replace h := bsome h; obtain ⟨v30, hv30, h⟩ := h
     have hv30 := chkI_some hv30
     refine Chain.runK [] 2 fun K hK => ?_; simp [hv30]; refine hK _ _ ?_; clear hK K
     refine Chain.sub (S' := mk 32 [] [(1, .d (.sl (a1.map cS79))), (2, .fn (.func g2) (cs2.map .d)), (15, .d (.sl (a0.map cS79))), (16, .i (a0.length : Int)), (17, .i v30)] []) Sub.tt ?_
     refine Chain.nil ?_
     cases h
     refine PostI.next ?_
     exact Sub.tt
   ·have c24_ : decide (v8 < (a0.length : Int)) = false := decide_eq_false c24
    refine AW.condF (b := decide (v8 < (a0.length : Int))) rfl c24_ ?_
    refine AW.sub (Sub.bool 18 (b := decide (v8 < (a0.length : Int))) rfl c24_) ?_
    refine AW.sub (S' := mk 32 [] [(1, .d (.sl (a1.map cS79))), (2, .fn (.func g2) (cs2.map .d)), (15, .d (.sl (a0.map cS79))), (16, .i (a0.length : Int)), (17, .i v8), (18, .b false)] []) (by simp; exact Sub.table (by simp) (by simp)) ?_
    refine AW.exit ?_
    cases h
    refine thenQ_pass (by simp) ?_
    refine PostI.out (by simp) ?_
    rintro rfl
    refine blockQ.hit ?_
    refine PostJ.next ?_
    exact Sub.tt
  ·rintro ⟨⟩ h
   refine thenQ_normal ?_
   refine AW.seqR ?_
   refine Chain.runK [] 1 fun K hK => ?_; simp; refine hK _ _ ?_; clear hK K
   refine Chain.sub (S' := mk 32 [] [(6, .b true)] []) Sub.tt ?_
   refine Chain.nil ?_
   refine AW.ret ?_
   cases h
   exact FinC.ret (by simp) (by simp)

/-- stemma/stemlaw5.sameRecords$1 -/
def d31 (N : Nat) (a0 : S79) (a1 : S79) : Option Bool :=
 Option.bind (α := Bool) (
  if decide (a0.Key = a1.Key) = true then (
   (d17 N a0.Row a1.Row).bind fun r5 =>
   some r5
  ) else
  some false
 ) fun (v3 : Bool) =>
 some v3
set_option maxRecDepth 100000 in
set_option maxHeartbeats 4000000 in
theorem p31 (N : Nat) (a0 : S79) (a1 : S79) (r : Bool) (h : d31 N a0 a1 = some r) : FunC Try.prog 31 [.agg [.d (.lit (.string a0.Key)), .d (.sl (a0.Row.map cS53))], .agg [.d (.lit (.string a1.Key)), .d (.sl (a1.Row.map cS53))]] (.b r) := by
 unfold d31 at h
 refine FunC.enter 17 [(0, .agg [.d (.lit (.string a0.Key)), .d (.sl (a0.Row.map cS53))]), (1, .agg [.d (.lit (.string a1.Key)), .d (.sl (a1.Row.map cS53))])] (by simp) Try.func31 rfl (of_decide_eq_true rfl) rfl rfl ?_
 refine AW.seqR ?_
 refine Chain.runK [] 3 fun K hK => ?_; simp; refine hK _ _ ?_; clear hK K
 refine Chain.sub (S' := mk 17 [] [(2, .ptr 2 0 0), (3, .ptr 3 0 0)] [(2, some (.box [.d (.lit (.string a0.Key)), .d (.sl (a0.Row.map cS53))])), (3, some (.box [.d (.lit (.string a1.Key)), .d (.sl (a1.Row.map cS53))]))]) Sub.tt ?_
 refine Chain.nil ?_
 replace h := bsome h; obtain ⟨v3, hj, h⟩ := h
 refine AW.cutR (mk 17 [] [(4, .b v3)] []) ?_ ?_
 ·clear h; have h := hj; clear hj
  refine Chain.runK [] 6 fun K hK => ?_; simp; refine hK _ _ ?_; clear hK K
  refine Chain.sub (S' := mk 17 [] [(2, .ptr 2 0 0), (3, .ptr 3 0 0), (10, .b (decide (a0.Key = a1.Key)))] [(2, some (.box [.d (.lit (.string a0.Key)), .d (.sl (a0.Row.map cS53))])), (3, some (.box [.d (.lit (.string a1.Key)), .d (.sl (a1.Row.map cS53))]))]) Sub.tt ?_
  replace h := isome h; rcases h with ⟨c4, h⟩ | ⟨c4, h⟩
  ·have c4_ : decide (a0.Key = a1.Key) = true := c4
   refine Chain.sub (Sub.bool 10 (b := decide (a0.Key = a1.Key)) rfl c4_) ?_
   refine Chain.sub (S' := mk 17 [] [(2, .ptr 2 0 0), (3, .ptr 3 0 0), (10, .b true)] [(2, some (.box [.d (.lit (.string a0.Key)), .d (.sl (a0.Row.map cS53))])), (3, some (.box [.d (.lit (.string a1.Key)), .d (.sl (a1.Row.map cS53))]))]) (by simp; exact Sub.table (by simp) (by simp)) ?_
   refine Chain.runK [] 4 fun K hK => ?_; simp; refine hK _ _ ?_; clear hK K
   refine Chain.sub (S' := mk 17 [] [(10, .b true), (12, .d (.sl (a0.Row.map cS53))), (14, .d (.sl (a1.Row.map cS53)))] []) Sub.tt ?_
   replace h := bsome h; obtain ⟨r5, hr5, h⟩ := h
   refine Chain.callL (d := 15) (p17 N a0.Row a1.Row r5 hr5) (by simp) rfl rfl (by simp <;> rfl) (by simp <;> rfl) ent17 (by simp <;> rfl) ?_
   refine Chain.sub (S' := mk 17 [] [(10, .b true), (12, .d (.sl (a0.Row.map cS53))), (14, .d (.sl (a1.Row.map cS53))), (15, .b r5)] []) (by simp; exact Sub.table (by simp) (by simp)) ?_
   refine Chain.runK [] 2 fun K hK => ?_; simp; refine hK _ _ ?_; clear hK K
   refine Chain.sub (S' := mk 17 [] [(4, .b r5)] []) Sub.tt ?_
   cases h
   exact Chain.nil Sub.tt
  ·have c4_ : decide (a0.Key = a1.Key) = false := Bool.eq_false_iff.2 c4
   refine Chain.sub (Sub.bool 10 (b := decide (a0.Key = a1.Key)) rfl c4_) ?_
   refine Chain.sub (S' := mk 17 [] [(2, .ptr 2 0 0), (3, .ptr 3 0 0), (10, .b false)] [(2, some (.box [.d (.lit (.string a0.Key)), .d (.sl (a0.Row.map cS53))])), (3, some (.box [.d (.lit (.string a1.Key)), .d (.sl (a1.Row.map cS53))]))]) (by simp; exact Sub.table (by simp) (by simp)) ?_
   refine Chain.runK [] 7 fun K hK => ?_; simp; refine hK _ _ ?_; clear hK K
   refine Chain.sub (S' := mk 17 [] [(4, .b false)] []) Sub.tt ?_
   cases h
   exact Chain.nil Sub.tt
 ·clear hj
  refine AW.ret ?_
  cases h
  exact FinC.ret (by simp) (by simp)

/-- stemma/stemlaw5.sameRecords -/
def d20 (N : Nat) (a0 : (List S79)) (a1 : (List S79)) : Option Bool :=
 (d30 N a0 a1 (fun b0 b1 => d31 N b0 b1 )).bind fun r1 =>
 some r1
set_option maxRecDepth 100000 in
set_option maxHeartbeats 4000000 in
theorem p20 (N : Nat) (a0 : (List S79)) (a1 : (List S79)) (r : Bool) (h : d20 N a0 a1 = some r) : FunC Try.prog 20 [.d (.sl (a0.map cS79)), .d (.sl (a1.map cS79))] (.b r) := by
 unfold d20 at h
 refine FunC.enter 8 [(0, .d (.sl (a0.map cS79))), (1, .d (.sl (a1.map cS79)))] (by simp) Try.func20 rfl (of_decide_eq_true rfl) rfl rfl ?_
 refine AW.seqR ?_
 refine Chain.runK [] 1 fun K hK => ?_; simp; refine hK _ _ ?_; clear hK K
 refine Chain.sub (S' := mk 8 [] [(0, .d (.sl (a0.map cS79))), (1, .d (.sl (a1.map cS79)))] []) Sub.tt ?_
 refine Chain.nil ?_
 refine AW.seqR ?_
 refine Chain.runK [] 2 fun K hK => ?_; simp; refine hK _ _ ?_; clear hK K
 refine Chain.sub (S' := mk 8 [] [(5, .d (.sl (a0.map cS79))), (6, .d (.sl (a1.map cS79)))] []) Sub.tt ?_
 replace h := bsome h; obtain ⟨r1, hr1, h⟩ := h
 refine Chain.callL (d := 7) (FunC.argsF (args := [.d (.sl (a0.map cS79)), .d (.sl (a1.map cS79)), .d (.lit (.func (.func 31) #[] #[]))]) (p30 N a0 a1 31 [] (fun b0 b1 => d31 N b0 b1 ) ent31 (fun b0 b1 r h => p31 N b0 b1  r h) r1 hr1) (by simp [V.wf]) rfl) (by simp) rfl rfl (by simp <;> rfl) (by simp <;> rfl) ent30 (by simp <;> rfl) ?_
 refine Chain.sub (S' := mk 8 [] [(5, .d (.sl (a0.map cS79))), (6, .d (.sl (a1.map cS79))), (7, .b r1)] []) (by simp; exact Sub.table (by simp) (by simp)) ?_
 refine Chain.runK [] 1 fun K hK => ?_; simp; refine hK _ _ ?_; clear hK K
 refine Chain.sub (S' := mk 8 [] [(4, .b r1)] []) Sub.tt ?_
 refine Chain.nil ?_
 refine AW.ret ?_
 cases h
 exact FinC.ret (by simp) (by simp)

end Go.Proofs.Ytifcmomjjkbboac
