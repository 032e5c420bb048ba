/- Functions of the program as functional programs; the code computes them. -/
import Derived.Test.YtdiekinmoklonabDoorLx0
namespace Go.Proofs.YtdiekinmoklonabDoor
open Go.Ab Go.Rp
attribute [-simp] List.all_eq_true Array.all_toList Array.all_eq_true

/-- stemma/lexer.inner -/
def d15 (_N : Nat) (a0 : Int) : Option Bool :=
 Option.bind (α := Bool) (
  if a0 ≥ 97 then (
   if a0 ≤ 122 then (
    some true
   ) else
   if a0 ≥ 48 then (
    some (decide (a0 ≤ 57))
   ) else
   some false
  ) else
  if a0 ≥ 48 then (
   some (decide (a0 ≤ 57))
  ) else
  some false
 ) fun (v5 : Bool) =>
 some v5
set_option maxRecDepth 100000 in
set_option maxHeartbeats 4000000 in
theorem p15 (N : Nat) (a0 : Int) (r : Bool) (h : d15 N a0 = some r) : FunC Tryd.prog 15 [.d (.lit (.int .u8 a0))] (.b r) := by
 unfold d15 at h
 refine FunC.enter 17 [(0, .d (.lit (.int .u8 a0)))] (by simp) Tryd.func15 rfl (of_decide_eq_true rfl) rfl rfl ?_
 refine AW.seqR ?_
 refine Chain.runK [] 1 fun K hK => ?_; simp; refine hK _ _ ?_; clear hK K
 refine Chain.sub (S' := mk 17 [] [(0, .d (.lit (.int .u8 a0)))] []) Sub.tt ?_
 refine Chain.nil ?_
 replace h := bsome h; obtain ⟨v5, hj, h⟩ := h
 refine AW.cutR (mk 17 [] [(2, .b v5)] []) ?_ ?_
 ·clear h; have h := hj; clear hj
  refine Chain.runK [] 3 fun K hK => ?_; simp; refine hK _ _ ?_; clear hK K
  refine Chain.sub (S' := mk 17 [] [(0, .d (.lit (.int .u8 a0))), (5, .b (decide (a0 ≥ 97)))] []) Sub.tt ?_
  replace h := isome h; rcases h with ⟨c6, h⟩ | ⟨c6, h⟩
  ·have c6_ : decide (a0 ≥ 97) = true := decide_eq_true c6
   refine Chain.sub (Sub.bool 5 (b := decide (a0 ≥ 97)) rfl c6_) ?_
   refine Chain.sub (S' := mk 17 [] [(0, .d (.lit (.int .u8 a0))), (5, .b true)] []) (by simp; exact Sub.table (by simp) (by simp)) ?_
   refine Chain.runK [] 4 fun K hK => ?_; simp; refine hK _ _ ?_; clear hK K
   refine Chain.sub (S' := mk 17 [] [(0, .d (.lit (.int .u8 a0))), (9, .b (decide (a0 ≤ 122)))] []) Sub.tt ?_
   replace h := isome h; rcases h with ⟨c7, h⟩ | ⟨c7, h⟩
   ·have c7_ : decide (a0 ≤ 122) = true := decide_eq_true c7
    refine Chain.sub (Sub.bool 9 (b := decide (a0 ≤ 122)) rfl c7_) ?_
    refine Chain.sub (S' := mk 17 [] [(0, .d (.lit (.int .u8 a0))), (9, .b true)] []) (by simp; exact Sub.table (by simp) (by simp)) ?_
    refine Chain.runK [] 8 fun K hK => ?_; simp; refine hK _ _ ?_; clear hK K
    refine Chain.sub (S' := mk 17 [] [(2, .b true)] []) Sub.tt ?_
    cases h
    exact Chain.nil Sub.tt
   ·have c7_ : decide (a0 ≤ 122) = false := decide_eq_false c7
    refine Chain.sub (Sub.bool 9 (b := decide (a0 ≤ 122)) rfl c7_) ?_
    refine Chain.sub (S' := mk 17 [] [(0, .d (.lit (.int .u8 a0))), (9, .b false)] []) (by simp; exact Sub.table (by simp) (by simp)) ?_
    refine Chain.runK [] 3 fun K hK => ?_; simp; refine hK _ _ ?_; clear hK K
    refine Chain.sub (S' := mk 17 [] [(0, .d (.lit (.int .u8 a0))), (9, .b false), (12, .b (decide (a0 ≥ 48)))] []) Sub.tt ?_
    replace h := isome h; rcases h with ⟨c8, h⟩ | ⟨c8, h⟩
    ·have c8_ : decide (a0 ≥ 48) = true := decide_eq_true c8
     refine Chain.sub (Sub.bool 12 (b := decide (a0 ≥ 48)) rfl c8_) ?_
     refine Chain.sub (S' := mk 17 [] [(0, .d (.lit (.int .u8 a0))), (9, .b false), (12, .b true)] []) (by simp; exact Sub.table (by simp) (by simp)) ?_
     refine Chain.runK [] 5 fun K hK => ?_; simp; refine hK _ _ ?_; clear hK K
     refine Chain.sub (S' := mk 17 [] [(2, .b (decide (a0 ≤ 57)))] []) Sub.tt ?_
     cases h
     exact Chain.nil Sub.tt
    ·have c8_ : decide (a0 ≥ 48) = false := decide_eq_false c8
     refine Chain.sub (Sub.bool 12 (b := decide (a0 ≥ 48)) rfl c8_) ?_
     refine Chain.sub (S' := mk 17 [] [(0, .d (.lit (.int .u8 a0))), (9, .b false), (12, .b false)] []) (by simp; exact Sub.table (by simp) (by simp)) ?_
     refine Chain.runK [] 5 fun K hK => ?_; simp; refine hK _ _ ?_; clear hK K
     refine Chain.sub (S' := mk 17 [] [(2, .b false)] []) Sub.tt ?_
     cases h
     exact Chain.nil Sub.tt
  ·have c6_ : decide (a0 ≥ 97) = false := decide_eq_false c6
   refine Chain.sub (Sub.bool 5 (b := decide (a0 ≥ 97)) rfl c6_) ?_
   refine Chain.sub (S' := mk 17 [] [(0, .d (.lit (.int .u8 a0))), (5, .b false)] []) (by simp; exact Sub.table (by simp) (by simp)) ?_
   refine Chain.runK [] 7 fun K hK => ?_; simp; refine hK _ _ ?_; clear hK K
   refine Chain.sub (S' := mk 17 [] [(0, .d (.lit (.int .u8 a0))), (9, .b false), (12, .b (decide (a0 ≥ 48)))] []) Sub.tt ?_
   replace h := isome h; rcases h with ⟨c9, h⟩ | ⟨c9, h⟩
   ·have c9_ : decide (a0 ≥ 48) = true := decide_eq_true c9
    refine Chain.sub (Sub.bool 12 (b := decide (a0 ≥ 48)) rfl c9_) ?_
    refine Chain.sub (S' := mk 17 [] [(0, .d (.lit (.int .u8 a0))), (9, .b false), (12, .b true)] []) (by simp; exact Sub.table (by simp) (by simp)) ?_
    refine Chain.runK [] 5 fun K hK => ?_; simp; refine hK _ _ ?_; clear hK K
    refine Chain.sub (S' := mk 17 [] [(2, .b (decide (a0 ≤ 57)))] []) Sub.tt ?_
    cases h
    exact Chain.nil Sub.tt
   ·have c9_ : decide (a0 ≥ 48) = false := decide_eq_false c9
    refine Chain.sub (Sub.bool 12 (b := decide (a0 ≥ 48)) rfl c9_) ?_
    refine Chain.sub (S' := mk 17 [] [(0, .d (.lit (.int .u8 a0))), (9, .b false), (12, .b false)] []) (by simp; exact Sub.table (by simp) (by simp)) ?_
    refine Chain.runK [] 5 fun K hK => ?_; simp; refine hK _ _ ?_; clear hK K
    refine Chain.sub (S' := mk 17 [] [(2, .b false)] []) Sub.tt ?_
    cases h
    exact Chain.nil Sub.tt
 ·clear hj
  refine AW.ret ?_
  cases h
  exact FinC.ret (by simp) (by simp)

/-- stemma/lexer.Keywords -/
def d10 (_N : Nat)  : Option (List ByteArray) :=
 letv ([(ByteArray.mk #[97, 103, 103, 114, 101, 103, 97, 116, 101]), (ByteArray.mk #[97, 110, 100]), (ByteArray.mk #[97, 115]), (ByteArray.mk #[98, 121]), (ByteArray.mk #[100, 101, 115, 99]), (ByteArray.mk #[101, 108, 115, 101]), (ByteArray.mk #[101, 120, 99, 101, 112, 116]), (ByteArray.mk #[102, 97, 108, 115, 101]), (ByteArray.mk #[103, 114, 111, 117, 112]), (ByteArray.mk #[105, 102]), (ByteArray.mk #[105, 115]), (ByteArray.mk #[106, 111, 105, 110]), (ByteArray.mk #[108, 101, 102, 116]), (ByteArray.mk #[108, 101, 110, 103, 116, 104]), (ByteArray.mk #[108, 105, 109, 105, 116]), (ByteArray.mk #[110, 111, 116]), (ByteArray.mk #[110, 117, 108, 108]), (ByteArray.mk #[111, 102, 102, 115, 101, 116]), (ByteArray.mk #[111, 110]), (ByteArray.mk #[111, 114]), (ByteArray.mk #[112, 114, 111, 106, 101, 99, 116]), (ByteArray.mk #[115, 99, 97, 110]), (ByteArray.mk #[115, 111, 114, 116]), (ByteArray.mk #[116, 104, 101, 110]), (ByteArray.mk #[116, 114, 117, 101]), (ByteArray.mk #[117, 110, 105, 111, 110]), (ByteArray.mk #[119, 104, 101, 114, 101])] : List ByteArray) fun l1 =>
 some l1
set_option maxRecDepth 100000 in
set_option maxHeartbeats 4000000 in
theorem p10 (N : Nat)  (r : (List ByteArray)) (h : d10 N  = some r) : FunC Tryd.prog 10 [] (.d (.sl (r.map cS))) := by
 unfold d10 at h
 refine FunC.enter 2 [] (by simp) Tryd.func10 rfl (of_decide_eq_true rfl) rfl rfl ?_
 refine AW.seqR ?_
 refine Chain.runK [] 1 fun K hK => ?_; simp; refine hK _ _ ?_; clear hK K
 refine Chain.sub (S' := mk 2 [] [] []) Sub.tt ?_
 refine Chain.nil ?_
 refine AW.seqR ?_
 refine Chain.runK [] 1 fun K hK => ?_; simp; refine hK _ _ ?_; clear hK K
 refine Chain.sub (Sub.wkRow 1 rfl) ?_
 replace h := lsome h; obtain ⟨l1, hl1, h⟩ := h
 refine Chain.sub (S' := mk 2 [] [(1, .ref 1 0 l1.length)] [(1, R9 l1)]) (by simp; subst hl1; exact Sub.table (by simp) (by simp)) ?_
 refine Chain.runK [] 1 fun K hK => ?_; simp; refine hK _ _ ?_; clear hK K
 refine Chain.sub (S' := mk 2 [] [(0, .ref 1 0 l1.length)] [(1, R9 l1)]) Sub.tt ?_
 refine Chain.nil ?_
 refine AW.sub (Sub.freeze 1 rfl) ?_
 refine AW.sub (S' := mk 2 [] [(0, .d (.sl (l1.map cS)))] []) (by simp; exact Sub.table (by simp) (by simp)) ?_
 refine AW.ret ?_
 cases h
 exact FinC.ret (by simp) (by simp)

/-- slices.Index[[]string,string] -/
def d14 (N : Nat) (a0 : (List ByteArray)) (a1 : ByteArray) : Option Int :=
 bindO (β := Unit) (ρ := Int) (
  iterN (σ := Int) (ρ := (Out Unit Int)) (fun (v5 : Int) =>
   if v5 < (a0.length : Int) then (
    (idx a0 v5).bind fun x18 =>
    if decide (a1 = x18) = true then (
     some (.inr (.ret v5))
    ) else
    (chkI (v5 + 1)).bind fun v21 =>
    some (.inl v21)
   ) else
   some (.inr (.go ()))
  ) N 0
 ) fun (_ : Unit) =>
 some (-1)
set_option maxRecDepth 100000 in
set_option maxHeartbeats 4000000 in
theorem p14 (N : Nat) (a0 : (List ByteArray)) (a1 : ByteArray) (r : Int) (h : d14 N a0 a1 = some r) : FunC Tryd.prog 14 [.d (.sl (a0.map cS)), .d (.lit (.string a1))] (.i r) := by
 unfold d14 at h
 refine FunC.enter 19 [(0, .d (.sl (a0.map cS))), (1, .d (.lit (.string a1)))] (by simp) Tryd.func14 rfl (of_decide_eq_true rfl) rfl rfl ?_
 refine AW.seqR ?_
 refine Chain.runK [] 1 fun K hK => ?_; simp; refine hK _ _ ?_; clear hK K
 refine Chain.sub (S' := mk 19 [] [(0, .d (.sl (a0.map cS))), (1, .d (.lit (.string a1)))] []) Sub.tt ?_
 refine Chain.nil ?_
 refine AW.seq ?_
 refine AW.seqR ?_
 refine Chain.runK [] 3 fun K hK => ?_; simp; refine hK _ _ ?_; clear hK K
 refine Chain.sub (S' := mk 19 [] [(0, .d (.sl (a0.map cS))), (1, .d (.lit (.string a1))), (7, .i (a0.length : Int)), (8, .i 0)] []) Sub.tt ?_
 refine Chain.nil ?_
 refine AW.lastJ (fun (_ : Unit) => mk 19 [] [] []) h ?_ ?_ <;> clear h
 ·intro o h
  refine AW.block ?_
  refine AW.iter (fun (v5 : Int) => mk 19 [] [(0, .d (.sl (a0.map cS))), (1, .d (.lit (.string a1))), (7, .i (a0.length : Int)), (8, .i v5)] []) h Sub.tt ?_
  clear h
  rintro v5 x h
  refine AW.seqR ?_
  refine Chain.runK [] 1 fun K hK => ?_; simp; refine hK _ _ ?_; clear hK K
  refine Chain.sub (S' := mk 19 [] [(0, .d (.sl (a0.map cS))), (1, .d (.lit (.string a1))), (7, .i (a0.length : Int)), (8, .i v5), (9, .b (decide (v5 < (a0.length : Int))))] []) Sub.tt ?_
  refine Chain.nil ?_
  refine AW.seq ?_
  replace h := isome h; rcases h with ⟨c17, h⟩ | ⟨c17, h⟩
  ·have c17_ : decide (v5 < (a0.length : Int)) = true := decide_eq_true c17
   refine AW.condT (b := decide (v5 < (a0.length : Int))) rfl c17_ ?_
   refine AW.sub (Sub.bool 9 (b := decide (v5 < (a0.length : Int))) rfl c17_) ?_
   refine AW.sub (S' := mk 19 [] [(0, .d (.sl (a0.map cS))), (1, .d (.lit (.string a1))), (7, .i (a0.length : Int)), (8, .i v5), (9, .b true)] []) (by simp; exact Sub.table (by simp) (by simp)) ?_
   refine AW.skip ?_
   refine thenQ_normal ?_
   refine AW.seq ?_
   refine AW.block ?_
   refine AW.seqR ?_
   refine Chain.runK [] 2 fun K hK => ?_; simp; refine hK _ _ ?_; clear hK K
   refine Chain.sub (S' := mk 19 [] [(0, .d (.sl (a0.map cS))), (1, .d (.lit (.string a1))), (5, .i v5), (7, .i (a0.length : Int)), (8, .i v5)] []) Sub.tt ?_
   refine Chain.nil ?_
   refine AW.seqR ?_
   replace h := bsome h; obtain ⟨x18, hx18, h⟩ := h
   obtain ⟨k19, hx18k, hx18, hx18a, hx18b⟩ := idx_some hx18
   refine Chain.runK [] 6 fun K hK => ?_; simp [hx18, hx18k, hx18a]; refine hK _ _ ?_; clear hK K
   refine Chain.sub (S' := mk 19 [] [(0, .d (.sl (a0.map cS))), (1, .d (.lit (.string a1))), (5, .i v5), (7, .i (a0.length : Int)), (8, .i v5), (16, .b (decide (a1 = x18)))] []) Sub.tt ?_
   refine Chain.nil ?_
   replace h := isome h; rcases h with ⟨c20, h⟩ | ⟨c20, h⟩
   ·have c20_ : decide (a1 = x18) = true := c20
    refine AW.condT (b := decide (a1 = x18)) rfl c20_ ?_
    refine AW.sub (Sub.bool 16 (b := decide (a1 = x18)) rfl c20_) ?_
    refine AW.sub (S' := mk 19 [] [(0, .d (.sl (a0.map cS))), (1, .d (.lit (.string a1))), (5, .i v5), (7, .i (a0.length : Int)), (8, .i v5), (16, .b true)] []) (by simp; exact Sub.table (by simp) (by simp)) ?_
    refine AW.seqR ?_
    refine Chain.runK [] 2 fun K hK => ?_; simp; refine hK _ _ ?_; clear hK K
    refine Chain.sub (S' := mk 19 [] [(4, .i v5)] []) Sub.tt ?_
    refine Chain.nil ?_
    refine AW.ret ?_
    cases h
    refine blockQ.ret ?_
    refine thenQ_pass (by simp) ?_
    refine PostI.out (by simp) ?_
    rintro rfl
    refine blockQ.ret ?_
    refine PostJ.out (by simp) ?_
    rintro rfl
    refine thenQ_pass (by simp) ?_
    exact FinC.ret (by simp) (by simp)
   ·have c20_ : decide (a1 = x18) = false := Bool.eq_false_iff.2 c20
    refine AW.condF (b := decide (a1 = x18)) rfl c20_ ?_
    refine AW.sub (Sub.bool 16 (b := decide (a1 = x18)) rfl c20_) ?_
    refine AW.sub (S' := mk 19 [] [(0, .d (.sl (a0.map cS))), (1, .d (.lit (.string a1))), (5, .i v5), (7, .i (a0.length : Int)), (8, .i v5), (16, .b false)] []) (by simp; exact Sub.table (by simp) (by simp)) ?_
    refine AW.skip ?_
    refine blockQ.normal ?_
    refine thenQ_normal ?_
    refine AW.region ?_
    replace h := bsome h; obtain ⟨v21, hv21, h⟩ := h
    have hv21 := chkI_some hv21
    refine Chain.runK [] 2 fun K hK => ?_; simp [hv21]; refine hK _ _ ?_; clear hK K
    refine Chain.sub (S' := mk 19 [] [(0, .d (.sl (a0.map cS))), (1, .d (.lit (.string a1))), (7, .i (a0.length : Int)), (8, .i v21)] []) Sub.tt ?_
    refine Chain.nil ?_
    cases h
    refine PostI.next ?_
    exact Sub.tt
  ·have c17_ : decide (v5 < (a0.length : Int)) = false := decide_eq_false c17
   refine AW.condF (b := decide (v5 < (a0.length : Int))) rfl c17_ ?_
   refine AW.sub (Sub.bool 9 (b := decide (v5 < (a0.length : Int))) rfl c17_) ?_
   refine AW.sub (S' := mk 19 [] [(0, .d (.sl (a0.map cS))), (1, .d (.lit (.string a1))), (7, .i (a0.length : Int)), (8, .i v5), (9, .b false)] []) (by simp; exact Sub.table (by simp) (by simp)) ?_
   refine AW.exit ?_
   cases h
   refine thenQ_pass (by simp) ?_
   refine PostI.out (by simp) ?_
   rintro rfl
   refine blockQ.hit ?_
   refine PostJ.next ?_
   exact Sub.tt
 ·rintro ⟨⟩ h
  refine thenQ_normal ?_
  refine AW.seqR ?_
  refine Chain.runK [] 1 fun K hK => ?_; simp; refine hK _ _ ?_; clear hK K
  refine Chain.sub (S' := mk 19 [] [(4, .i (-1))] []) Sub.tt ?_
  refine Chain.nil ?_
  refine AW.ret ?_
  cases h
  exact FinC.ret (by simp) (by simp)

/-- slices.Contains[[]string,string] -/
def d9 (N : Nat) (a0 : (List ByteArray)) (a1 : ByteArray) : Option Bool :=
 (d14 N a0 a1).bind fun r1 =>
 some (decide (r1 ≥ 0))
set_option maxRecDepth 100000 in
set_option maxHeartbeats 4000000 in
theorem p9 (N : Nat) (a0 : (List ByteArray)) (a1 : ByteArray) (r : Bool) (h : d9 N a0 a1 = some r) : FunC Tryd.prog 9 [.d (.sl (a0.map cS)), .d (.lit (.string a1))] (.b r) := by
 unfold d9 at h
 refine FunC.enter 9 [(0, .d (.sl (a0.map cS))), (1, .d (.lit (.string a1)))] (by simp) Tryd.func9 rfl (of_decide_eq_true rfl) rfl rfl ?_
 refine AW.seqR ?_
 refine Chain.runK [] 1 fun K hK => ?_; simp; refine hK _ _ ?_; clear hK K
 refine Chain.sub (S' := mk 9 [] [(0, .d (.sl (a0.map cS))), (1, .d (.lit (.string a1)))] []) Sub.tt ?_
 refine Chain.nil ?_
 refine AW.seqR ?_
 refine Chain.runK [] 2 fun K hK => ?_; simp; refine hK _ _ ?_; clear hK K
 refine Chain.sub (S' := mk 9 [] [(5, .d (.sl (a0.map cS))), (6, .d (.lit (.string a1)))] []) Sub.tt ?_
 replace h := bsome h; obtain ⟨r1, hr1, h⟩ := h
 refine Chain.callL (d := 7) (p14 N a0 a1 r1 hr1) (by simp) rfl rfl (by simp <;> rfl) (by simp <;> rfl) ent14 (by simp <;> rfl) ?_
 refine Chain.sub (S' := mk 9 [] [(5, .d (.sl (a0.map cS))), (6, .d (.lit (.string a1))), (7, .i r1)] []) (by simp; exact Sub.table (by simp) (by simp)) ?_
 refine Chain.runK [] 2 fun K hK => ?_; simp; refine hK _ _ ?_; clear hK K
 refine Chain.sub (S' := mk 9 [] [(4, .b (decide (r1 ≥ 0)))] []) Sub.tt ?_
 refine Chain.nil ?_
 refine AW.ret ?_
 cases h
 exact FinC.ret (by simp) (by simp)

/-- stemma/lexer.digit -/
def d16 (_N : Nat) (a0 : Int) : Option Bool :=
 Option.bind (α := Bool) (
  if a0 ≥ 48 then (
   some (decide (a0 ≤ 57))
  ) else
  some false
 ) fun (v2 : Bool) =>
 some v2
set_option maxRecDepth 100000 in
set_option maxHeartbeats 4000000 in
theorem p16 (N : Nat) (a0 : Int) (r : Bool) (h : d16 N a0 = some r) : FunC Tryd.prog 16 [.d (.lit (.int .u8 a0))] (.b r) := by
 unfold d16 at h
 refine FunC.enter 9 [(0, .d (.lit (.int .u8 a0)))] (by simp) Tryd.func16 rfl (of_decide_eq_true rfl) rfl rfl ?_
 refine AW.seqR ?_
 refine Chain.runK [] 1 fun K hK => ?_; simp; refine hK _ _ ?_; clear hK K
 refine Chain.sub (S' := mk 9 [] [(0, .d (.lit (.int .u8 a0)))] []) Sub.tt ?_
 refine Chain.nil ?_
 replace h := bsome h; obtain ⟨v2, hj, h⟩ := h
 refine AW.cutR (mk 9 [] [(2, .b v2)] []) ?_ ?_
 ·clear h; have h := hj; clear hj
  refine Chain.runK [] 3 fun K hK => ?_; simp; refine hK _ _ ?_; clear hK K
  refine Chain.sub (S' := mk 9 [] [(0, .d (.lit (.int .u8 a0))), (5, .b (decide (a0 ≥ 48)))] []) Sub.tt ?_
  replace h := isome h; rcases h with ⟨c3, h⟩ | ⟨c3, h⟩
  ·have c3_ : decide (a0 ≥ 48) = true := decide_eq_true c3
   refine Chain.sub (Sub.bool 5 (b := decide (a0 ≥ 48)) rfl c3_) ?_
   refine Chain.sub (S' := mk 9 [] [(0, .d (.lit (.int .u8 a0))), (5, .b true)] []) (by simp; exact Sub.table (by simp) (by simp)) ?_
   refine Chain.runK [] 4 fun K hK => ?_; simp; refine hK _ _ ?_; clear hK K
   refine Chain.sub (S' := mk 9 [] [(2, .b (decide (a0 ≤ 57)))] []) Sub.tt ?_
   cases h
   exact Chain.nil Sub.tt
  ·have c3_ : decide (a0 ≥ 48) = false := decide_eq_false c3
   refine Chain.sub (Sub.bool 5 (b := decide (a0 ≥ 48)) rfl c3_) ?_
   refine Chain.sub (S' := mk 9 [] [(0, .d (.lit (.int .u8 a0))), (5, .b false)] []) (by simp; exact Sub.table (by simp) (by simp)) ?_
   refine Chain.runK [] 4 fun K hK => ?_; simp; refine hK _ _ ?_; clear hK K
   refine Chain.sub (S' := mk 9 [] [(2, .b false)] []) Sub.tt ?_
   cases h
   exact Chain.nil Sub.tt
 ·clear hj
  refine AW.ret ?_
  cases h
  exact FinC.ret (by simp) (by simp)

def d25 (_N : Nat) (a0 : ByteArray) : Option (Int × Bool) := if a0.size ≤ 281474976710656 then (match Lib.atoiAll a0.data.toList with | .ok v => some (v, false) | Lib.NumEnd.syntax => some (0, true) | .range => some (Lib.atoiSat a0.data.toList, true)) else none
theorem p25 (N : Nat) (a0 : ByteArray) (r : Int × Bool) (h : d25 N a0 = some r) : FunC Tryd.prog 25 [.d (.lit (.string a0))] (.tup [.i r.1, .d (.er r.2)]) := by
 unfold d25 at h
 split at h
 case isFalse => cases h
 rename_i hb
 refine FunC.of_callsV (vals := [.string a0]) (by rintro E w vs ⟨_, _, rfl, ⟨rfl, _⟩, rfl⟩; rfl) rfl fun w g => ?_
 obtain ⟨⟨t0, q0, h0⟩, ⟨t1, q1, h1⟩, _⟩ := g.c
 split at h
 ·rename_i v hv
  injection h with h; subst h
  refine (Tryd.strconv_Atoi_ok a0 (by omega) v hv w).mono ?_
  rintro e w2 ⟨rfl, hw⟩
  refine ⟨_, rfl, fun E => ⟨[_, _], rfl, ⟨_, _, rfl, ⟨rfl, rfl⟩, ⟨_, _, rfl, rfl, rfl⟩⟩⟩, ?_⟩
  rcases hw with rfl | ⟨t, rfl⟩
  ·exact .refl _ _
  ·exact Lib.bytesWorld_below _ _ _
 ·rename_i hv
  injection h with h; subst h
  refine (Tryd.strconv_Atoi_syntax a0 hb hv _ w h0 (.inr ⟨_, _, rfl⟩)).mono ?_
  rintro e w2 ⟨N, rfl, _, _, hw⟩
  exact ⟨_, rfl, fun E => ⟨[_, _], rfl, ⟨_, _, rfl, ⟨rfl, rfl⟩, ⟨_, _, rfl, ⟨_, _, rfl⟩, rfl⟩⟩⟩, hw⟩
 ·rename_i hv
  injection h with h; subst h
  refine (Tryd.strconv_Atoi_range a0 hb hv _ w h1 (.inr ⟨_, _, rfl⟩)).mono ?_
  rintro e w2 ⟨N, rfl, _, _, hw⟩
  exact ⟨_, rfl, fun E => ⟨[_, _], rfl, ⟨_, _, rfl, ⟨rfl, rfl⟩, ⟨_, _, rfl, ⟨_, _, rfl⟩, rfl⟩⟩⟩, hw⟩

def d28 (_N : Nat) (a0 : Int) : Option ByteArray := if -9223372036854775808 ≤ a0 ∧ a0 ≤ 9223372036854775807 then some ⟨(Lib.itoa a0).toArray⟩ else none
theorem p28 (N : Nat) (a0 : Int) (r : ByteArray) (h : d28 N a0 = some r) : FunC Tryd.prog 28 [.i a0] (.d (.lit (.string r))) := by
 unfold d28 at h
 split at h
 case isFalse => cases h
 rename_i hb
 injection h with h; subst h
 exact FunC.of_calls (vals := [.int .i64 a0]) (by rintro E w vs ⟨_, _, rfl, ⟨rfl, _⟩, rfl⟩; rfl) rfl (fun w g => (Tryd.strconv_Itoa a0 hb.1 hb.2 w g.c.2.2).mono (by rintro e w2 ⟨rfl, k, os, rfl⟩; exact ⟨rfl, grow_drewN _ _ _⟩))

/-- stemma/lexer.number -/
def d17 (N : Nat) (a0 : ByteArray) (a1 : Int) : Option (S29 × Int × Bool) :=
 Option.bind (α := Int) (
  iterN (σ := Int) (ρ := Int) (fun (v10 : Int) =>
   Option.bind (α := Bool) (
    if v10 < (a0.size : Int) then (
     (idxB a0 v10).bind fun v36 =>
     (d16 N v36).bind fun r37 =>
     some r37
    ) else
    some false
   ) fun (v34 : Bool) =>
   if v34 = true then (
    (chkI (v10 + 1)).bind fun v39 =>
    some (.inl v39)
   ) else
   some (.inr v10)
  ) N a1
 ) fun (v30 : Int) =>
 (natI v30 a0.size).bind fun n40 =>
 (natI a1 n40).bind fun n41 =>
 letv (a0.extract n41 n40) fun v42 =>
 (d25 N v42).bind fun r43 =>
 Option.bind (α := Bool) (
  if (!r43.2) = true then (
   if r43.1 ≤ 1000000000000 then (
    (d28 N r43.1).bind fun r57 =>
    (natI (n40 : Int) a0.size).bind fun _ =>
    (natI (n41 : Int) n40).bind fun _ =>
    letv (a0.extract n41 n40) fun v60 =>
    if decide (r57 = v60) = true then (
     if ((n40 : Int) == (a0.size : Int)) then (
      some true
     ) else
     (idxB a0 (n40 : Int)).bind fun v63 =>
     (d15 N v63).bind fun r64 =>
     some (!r64)
    ) else
    some false
   ) else
   some false
  ) else
  some false
 ) fun (v54 : Bool) =>
 some ((S29.mk 3 (ByteArray.mk #[]) r43.1 0), (n40 : Int), v54)
set_option maxRecDepth 100000 in
set_option maxHeartbeats 4000000 in
theorem p17 (N : Nat) (a0 : ByteArray) (a1 : Int) (r : (S29 × Int × Bool)) (h : d17 N a0 a1 = some r) : FunC Tryd.prog 17 [.d (.lit (.string a0)), .i a1] (.tup [.agg [.i r.1.Kind, .d (.lit (.string r.1.Text)), .i r.1.Number, .i r.1.Offset], .i r.2.1, .b r.2.2]) := by
 unfold d17 at h
 refine FunC.enter 64 [(0, .d (.lit (.string a0))), (1, .i a1)] (by simp) Tryd.func17 rfl (of_decide_eq_true rfl) rfl rfl ?_
 refine AW.seqR ?_
 refine Chain.runK [] 3 fun K hK => ?_; simp; refine hK _ _ ?_; clear hK K
 refine Chain.sub (S' := mk 64 [] [(0, .d (.lit (.string a0))), (1, .i a1), (4, .ptr 4 0 0)] [(4, some (.box [.i 0, .d (.lit (.string (ByteArray.mk #[]))), .i 0, .i 0]))]) Sub.tt ?_
 refine Chain.nil ?_
 refine AW.seqR ?_
 refine Chain.runK [] 2 fun K hK => ?_; simp; refine hK _ _ ?_; clear hK K
 refine Chain.sub (S' := mk 64 [] [(0, .d (.lit (.string a0))), (1, .i a1), (4, .ptr 4 0 0), (7, .i a1)] [(4, some (.box [.i 0, .d (.lit (.string (ByteArray.mk #[]))), .i 0, .i 0]))]) Sub.tt ?_
 refine Chain.nil ?_
 refine AW.seqN (fun (v30 : Int) => mk 64 [] [(0, .d (.lit (.string a0))), (1, .i a1), (4, .ptr 4 0 0), (7, .i v30)] [(4, some (.box [.i 0, .d (.lit (.string (ByteArray.mk #[]))), .i 0, .i 0]))]) h ?_ ?_ <;> clear h
 ·intro o h
  refine AW.block ?_
  refine AW.iter (fun (v10 : Int) => mk 64 [] [(0, .d (.lit (.string a0))), (1, .i a1), (4, .ptr 4 0 0), (7, .i v10)] [(4, some (.box [.i 0, .d (.lit (.string (ByteArray.mk #[]))), .i 0, .i 0]))]) h Sub.tt ?_
  clear h
  rintro v10 x h
  refine AW.seq ?_
  replace h := bsome h; obtain ⟨v34, hj, h⟩ := h
  refine AW.cutR (mk 64 [] [(0, .d (.lit (.string a0))), (1, .i a1), (4, .ptr 4 0 0), (7, .i v10), (21, .b v34)] [(4, some (.box [.i 0, .d (.lit (.string (ByteArray.mk #[]))), .i 0, .i 0]))]) ?_ ?_
  ·clear h; have h := hj; clear hj
   refine Chain.runK [] 5 fun K hK => ?_; simp; refine hK _ _ ?_; clear hK K
   refine Chain.sub (S' := mk 64 [] [(0, .d (.lit (.string a0))), (1, .i a1), (4, .ptr 4 0 0), (7, .i v10), (16, .b (decide (v10 < (a0.size : Int))))] [(4, some (.box [.i 0, .d (.lit (.string (ByteArray.mk #[]))), .i 0, .i 0]))]) Sub.tt ?_
   replace h := isome h; rcases h with ⟨c35, h⟩ | ⟨c35, h⟩
   ·have c35_ : decide (v10 < (a0.size : Int)) = true := decide_eq_true c35
    refine Chain.sub (Sub.bool 16 (b := decide (v10 < (a0.size : Int))) rfl c35_) ?_
    refine Chain.sub (S' := mk 64 [] [(0, .d (.lit (.string a0))), (1, .i a1), (4, .ptr 4 0 0), (7, .i v10), (16, .b true)] [(4, some (.box [.i 0, .d (.lit (.string (ByteArray.mk #[]))), .i 0, .i 0]))]) (by simp; exact Sub.table (by simp) (by simp)) ?_
    replace h := bsome h; obtain ⟨v36, gv36, h⟩ := h
    obtain ⟨bv36, kv36, hv36k, hv36a, hv36b, hv36c⟩ := idxB_some gv36
    refine Chain.runK [] 3 fun K hK => ?_; simp [hv36k, hv36a, hv36b, hv36c]; refine hK _ _ ?_; clear hK K
    refine Chain.sub (S' := mk 64 [] [(0, .d (.lit (.string a0))), (1, .i a1), (4, .ptr 4 0 0), (7, .i v10), (16, .b true), (17, .d (.lit (.string a0))), (18, .i v10), (19, .d (.lit (.int .u8 v36)))] [(4, some (.box [.i 0, .d (.lit (.string (ByteArray.mk #[]))), .i 0, .i 0]))]) Sub.tt ?_
    replace h := bsome h; obtain ⟨r37, hr37, h⟩ := h
    refine Chain.callL (d := 20) (p16 N v36 r37 hr37) (by simp) rfl rfl (by simp <;> rfl) (by simp <;> rfl) ent16 (by simp <;> rfl) ?_
    refine Chain.sub (S' := mk 64 [] [(0, .d (.lit (.string a0))), (1, .i a1), (4, .ptr 4 0 0), (7, .i v10), (16, .b true), (17, .d (.lit (.string a0))), (18, .i v10), (19, .d (.lit (.int .u8 v36))), (20, .b r37)] [(4, some (.box [.i 0, .d (.lit (.string (ByteArray.mk #[]))), .i 0, .i 0]))]) (by simp; exact Sub.table (by simp) (by simp)) ?_
    refine Chain.runK [] 1 fun K hK => ?_; simp; refine hK _ _ ?_; clear hK K
    refine Chain.sub (S' := mk 64 [] [(0, .d (.lit (.string a0))), (1, .i a1), (4, .ptr 4 0 0), (7, .i v10), (17, .d (.lit (.string a0))), (18, .i v10), (19, .d (.lit (.int .u8 v36))), (20, .b r37), (21, .b r37)] [(4, some (.box [.i 0, .d (.lit (.string (ByteArray.mk #[]))), .i 0, .i 0]))]) Sub.tt ?_
    cases h
    exact Chain.nil Sub.tt
   ·have c35_ : decide (v10 < (a0.size : Int)) = false := decide_eq_false c35
    refine Chain.sub (Sub.bool 16 (b := decide (v10 < (a0.size : Int))) rfl c35_) ?_
    refine Chain.sub (S' := mk 64 [] [(0, .d (.lit (.string a0))), (1, .i a1), (4, .ptr 4 0 0), (7, .i v10), (16, .b false)] [(4, some (.box [.i 0, .d (.lit (.string (ByteArray.mk #[]))), .i 0, .i 0]))]) (by simp; exact Sub.table (by simp) (by simp)) ?_
    refine Chain.runK [] 5 fun K hK => ?_; simp; refine hK _ _ ?_; clear hK K
    refine Chain.sub (S' := mk 64 [] [(0, .d (.lit (.string a0))), (1, .i a1), (4, .ptr 4 0 0), (7, .i v10), (17, .tup []), (18, .tup []), (19, .tup []), (20, .tup []), (21, .b false)] [(4, some (.box [.i 0, .d (.lit (.string (ByteArray.mk #[]))), .i 0, .i 0]))]) Sub.tt ?_
    cases h
    exact Chain.nil Sub.tt
  ·clear hj
   replace h := isome h; rcases h with ⟨c38, h⟩ | ⟨c38, h⟩
   ·have c38_ : v34 = true := c38
    refine AW.condT (b := v34) rfl c38_ ?_
    refine AW.sub (Sub.bool 21 (b := v34) rfl c38_) ?_
    refine AW.sub (S' := mk 64 [] [(0, .d (.lit (.string a0))), (1, .i a1), (4, .ptr 4 0 0), (7, .i v10), (21, .b true)] [(4, some (.box [.i 0, .d (.lit (.string (ByteArray.mk #[]))), .i 0, .i 0]))]) (by simp; exact Sub.table (by simp) (by simp)) ?_
    refine AW.skip ?_
    refine thenQ_normal ?_
    refine AW.block ?_
    refine AW.region ?_
    replace h := bsome h; obtain ⟨v39, hv39, h⟩ := h
    have hv39 := chkI_some hv39
    refine Chain.runK [] 3 fun K hK => ?_; simp [hv39]; refine hK _ _ ?_; clear hK K
    refine Chain.sub (S' := mk 64 [] [(0, .d (.lit (.string a0))), (1, .i a1), (4, .ptr 4 0 0), (7, .i v39)] [(4, some (.box [.i 0, .d (.lit (.string (ByteArray.mk #[]))), .i 0, .i 0]))]) Sub.tt ?_
    refine Chain.nil ?_
    cases h
    refine blockQ.normal ?_
    refine PostI.next ?_
    exact Sub.tt
   ·have c38_ : v34 = false := Bool.eq_false_iff.2 c38
    refine AW.condF (b := v34) rfl c38_ ?_
    refine AW.sub (Sub.bool 21 (b := v34) rfl c38_) ?_
    refine AW.sub (S' := mk 64 [] [(0, .d (.lit (.string a0))), (1, .i a1), (4, .ptr 4 0 0), (7, .i v10), (21, .b false)] [(4, some (.box [.i 0, .d (.lit (.string (ByteArray.mk #[]))), .i 0, .i 0]))]) (by simp; exact Sub.table (by simp) (by simp)) ?_
    refine AW.exit ?_
    cases h
    refine thenQ_pass (by simp) ?_
    refine PostI.out (by simp) ?_
    rintro rfl
    refine blockQ.hit ?_
    refine PostN.next ?_
    exact Sub.tt
 ·rintro v30 h
  refine AW.seqR ?_
  replace h := bsome h; obtain ⟨n40, gn40, h⟩ := h
  obtain ⟨hn40a, hn40⟩ := natI_some gn40
  clear gn40
  subst hn40a
  replace h := bsome h; obtain ⟨n41, gn41, h⟩ := h
  obtain ⟨hn41a, hn41⟩ := natI_some gn41
  clear gn41
  subst hn41a
  replace h := lsome h; obtain ⟨v42, hv42, h⟩ := h
  refine Chain.runK [] 4 fun K hK => ?_; simp [hn40, hn41, hv42]; refine hK _ _ ?_; clear hK K
  refine Chain.sub (S' := mk 64 [] [(0, .d (.lit (.string a0))), (1, .i (n41 : Int)), (4, .ptr 4 0 0), (7, .i (n40 : Int)), (28, .d (.lit (.string v42)))] [(4, some (.box [.i 0, .d (.lit (.string (ByteArray.mk #[]))), .i 0, .i 0]))]) Sub.tt ?_
  replace h := bsome h; obtain ⟨r43, hr43, h⟩ := h
  refine Chain.callC (d := 29) (p25 N v42 r43 hr43) (by simp) rfl rfl (by simp <;> rfl) (by simp <;> rfl) ent25 (by simp) (.inl ⟨by simp, by simp⟩) ?_
  refine Chain.sub (S' := mk 64 [] [(0, .d (.lit (.string a0))), (1, .i (n41 : Int)), (4, .ptr 4 0 0), (7, .i (n40 : Int)), (28, .d (.lit (.string v42))), (29, .tup [.i r43.1, .d (.er r43.2)])] [(4, some (.box [.i 0, .d (.lit (.string (ByteArray.mk #[]))), .i 0, .i 0]))]) (by simp; exact Sub.table (by simp) (by simp)) ?_
  refine Chain.runK [] 5 fun K hK => ?_; simp; refine hK _ _ ?_; clear hK K
  refine Chain.sub (S' := mk 64 [] [(0, .d (.lit (.string a0))), (1, .i (n41 : Int)), (4, .ptr 4 0 0), (7, .i (n40 : Int)), (8, .i r43.1), (9, .d (.er r43.2))] [(4, some (.box [.i 0, .d (.lit (.string (ByteArray.mk #[]))), .i 0, .i 0]))]) Sub.tt ?_
  refine Chain.nil ?_
  replace h := bsome h; obtain ⟨v54, hj, h⟩ := h
  refine AW.cutQ (by kernel_rfl) (by kernel_rfl) (mk 64 [] [(4, .ptr 4 0 0), (7, .i (n40 : Int)), (8, .i r43.1), (10, .b v54)] [(4, some (.box [.i 0, .d (.lit (.string (ByteArray.mk #[]))), .i 0, .i 0]))]) ?_ ?_
  ·clear h; have h := hj; clear hj
   refine Chain.runQ 3 fun K hK => ?_; simp; refine hK _ _ ?_; clear hK K
   refine Chain.sub (S' := mk 64 [] [(0, .d (.lit (.string a0))), (1, .i (n41 : Int)), (4, .ptr 4 0 0), (7, .i (n40 : Int)), (8, .i r43.1), (34, .b (!r43.2))] [(4, some (.box [.i 0, .d (.lit (.string (ByteArray.mk #[]))), .i 0, .i 0]))]) Sub.tt ?_
   replace h := isome h; rcases h with ⟨c55, h⟩ | ⟨c55, h⟩
   ·have c55_ : (!r43.2) = true := c55
    refine Chain.sub (Sub.bool 34 (b := (!r43.2)) rfl c55_) ?_
    refine Chain.sub (S' := mk 64 [] [(0, .d (.lit (.string a0))), (1, .i (n41 : Int)), (4, .ptr 4 0 0), (7, .i (n40 : Int)), (8, .i r43.1), (34, .b true)] [(4, some (.box [.i 0, .d (.lit (.string (ByteArray.mk #[]))), .i 0, .i 0]))]) (by simp; exact Sub.table (by simp) (by simp)) ?_
    refine Chain.runQ 4 fun K hK => ?_; simp; refine hK _ _ ?_; clear hK K
    refine Chain.sub (S' := mk 64 [] [(0, .d (.lit (.string a0))), (1, .i (n41 : Int)), (4, .ptr 4 0 0), (7, .i (n40 : Int)), (8, .i r43.1), (38, .b (decide (r43.1 ≤ 1000000000000)))] [(4, some (.box [.i 0, .d (.lit (.string (ByteArray.mk #[]))), .i 0, .i 0]))]) Sub.tt ?_
    replace h := isome h; rcases h with ⟨c56, h⟩ | ⟨c56, h⟩
    ·have c56_ : decide (r43.1 ≤ 1000000000000) = true := decide_eq_true c56
     refine Chain.sub (Sub.bool 38 (b := decide (r43.1 ≤ 1000000000000)) rfl c56_) ?_
     refine Chain.sub (S' := mk 64 [] [(0, .d (.lit (.string a0))), (1, .i (n41 : Int)), (4, .ptr 4 0 0), (7, .i (n40 : Int)), (8, .i r43.1), (38, .b true)] [(4, some (.box [.i 0, .d (.lit (.string (ByteArray.mk #[]))), .i 0, .i 0]))]) (by simp; exact Sub.table (by simp) (by simp)) ?_
     refine Chain.runQ 1 fun K hK => ?_; simp; refine hK _ _ ?_; clear hK K
     refine Chain.sub (S' := mk 64 [] [(0, .d (.lit (.string a0))), (1, .i (n41 : Int)), (4, .ptr 4 0 0), (7, .i (n40 : Int)), (8, .i r43.1), (38, .b true), (39, .i r43.1)] [(4, some (.box [.i 0, .d (.lit (.string (ByteArray.mk #[]))), .i 0, .i 0]))]) Sub.tt ?_
     replace h := bsome h; obtain ⟨r57, hr57, h⟩ := h
     refine Chain.callL (d := 40) (p28 N r43.1 r57 hr57) (by simp) rfl rfl (by simp <;> rfl) (by simp <;> rfl) ent28 (by simp <;> rfl) ?_
     refine Chain.sub (S' := mk 64 [] [(0, .d (.lit (.string a0))), (1, .i (n41 : Int)), (4, .ptr 4 0 0), (7, .i (n40 : Int)), (8, .i r43.1), (38, .b true), (39, .i r43.1), (40, .d (.lit (.string r57)))] [(4, some (.box [.i 0, .d (.lit (.string (ByteArray.mk #[]))), .i 0, .i 0]))]) (by simp; exact Sub.table (by simp) (by simp)) ?_
     replace h := bsome h; obtain ⟨n58, gn58, h⟩ := h
     obtain ⟨hn58a, hn58⟩ := natI_some gn58
     have hn58b : (n40 : Int) ≤ ((a0.size : Nat) : Int) := by omega
     replace hn58 : n40 ≤ a0.size := by omega
     clear gn58 hn58a
     replace h := bsome h; obtain ⟨n59, gn59, h⟩ := h
     obtain ⟨hn59a, hn59⟩ := natI_some gn59
     have hn59b : (n41 : Int) ≤ ((n40 : Nat) : Int) := by omega
     replace hn59 : n41 ≤ n40 := by omega
     clear gn59 hn59a
     replace h := lsome h; obtain ⟨v60, hv60, h⟩ := h
     refine Chain.runQ 7 fun K hK => ?_; simp [hn58, hn59, hv60]; refine hK _ _ ?_; clear hK K
     refine Chain.sub (S' := mk 64 [] [(0, .d (.lit (.string a0))), (4, .ptr 4 0 0), (7, .i (n40 : Int)), (8, .i r43.1), (47, .b (decide (r57 = v60)))] [(4, some (.box [.i 0, .d (.lit (.string (ByteArray.mk #[]))), .i 0, .i 0]))]) Sub.tt ?_
     replace h := isome h; rcases h with ⟨c61, h⟩ | ⟨c61, h⟩
     ·have c61_ : decide (r57 = v60) = true := c61
      refine Chain.sub (Sub.bool 47 (b := decide (r57 = v60)) rfl c61_) ?_
      refine Chain.sub (S' := mk 64 [] [(0, .d (.lit (.string a0))), (4, .ptr 4 0 0), (7, .i (n40 : Int)), (8, .i r43.1), (47, .b true)] [(4, some (.box [.i 0, .d (.lit (.string (ByteArray.mk #[]))), .i 0, .i 0]))]) (by simp; exact Sub.table (by simp) (by simp)) ?_
      refine Chain.runQ 5 fun K hK => ?_; simp; refine hK _ _ ?_; clear hK K
      refine Chain.sub (S' := mk 64 [] [(0, .d (.lit (.string a0))), (4, .ptr 4 0 0), (7, .i (n40 : Int)), (8, .i r43.1), (47, .b true), (52, .b ((n40 : Int) == (a0.size : Int)))] [(4, some (.box [.i 0, .d (.lit (.string (ByteArray.mk #[]))), .i 0, .i 0]))]) Sub.tt ?_
      replace h := isome h; rcases h with ⟨c62, h⟩ | ⟨c62, h⟩
      ·have c62_ : ((n40 : Int) == (a0.size : Int)) = true := c62
       refine Chain.sub (Sub.bool 52 (b := ((n40 : Int) == (a0.size : Int))) rfl c62_) ?_
       refine Chain.sub (S' := mk 64 [] [(0, .d (.lit (.string a0))), (4, .ptr 4 0 0), (7, .i (n40 : Int)), (8, .i r43.1), (47, .b true), (52, .b true)] [(4, some (.box [.i 0, .d (.lit (.string (ByteArray.mk #[]))), .i 0, .i 0]))]) (by simp; exact Sub.table (by simp) (by simp)) ?_
       refine Chain.runQ 8 fun K hK => ?_; simp; refine hK _ _ ?_; clear hK K
       refine Chain.sub (S' := mk 64 [] [(4, .ptr 4 0 0), (7, .i (n40 : Int)), (8, .i r43.1), (10, .b true)] [(4, some (.box [.i 0, .d (.lit (.string (ByteArray.mk #[]))), .i 0, .i 0]))]) Sub.tt ?_
       cases h
       exact Chain.nil Sub.tt
      ·have c62_ : ((n40 : Int) == (a0.size : Int)) = false := Bool.eq_false_iff.2 c62
       refine Chain.sub (Sub.bool 52 (b := ((n40 : Int) == (a0.size : Int))) rfl c62_) ?_
       refine Chain.sub (S' := mk 64 [] [(0, .d (.lit (.string a0))), (4, .ptr 4 0 0), (7, .i (n40 : Int)), (8, .i r43.1), (47, .b true), (52, .b false)] [(4, some (.box [.i 0, .d (.lit (.string (ByteArray.mk #[]))), .i 0, .i 0]))]) (by simp; exact Sub.table (by simp) (by simp)) ?_
       replace h := bsome h; obtain ⟨v63, gv63, h⟩ := h
       obtain ⟨bv63, kv63, hv63k, hv63a, hv63b, hv63c⟩ := idxB_some gv63
       refine Chain.runQ 3 fun K hK => ?_; simp [hv63k, hv63a, hv63b, hv63c]; refine hK _ _ ?_; clear hK K
       refine Chain.sub (S' := mk 64 [] [(4, .ptr 4 0 0), (7, .i (n40 : Int)), (8, .i r43.1), (47, .b true), (52, .b false), (55, .d (.lit (.int .u8 v63)))] [(4, some (.box [.i 0, .d (.lit (.string (ByteArray.mk #[]))), .i 0, .i 0]))]) Sub.tt ?_
       replace h := bsome h; obtain ⟨r64, hr64, h⟩ := h
       refine Chain.callL (d := 56) (p15 N v63 r64 hr64) (by simp) rfl rfl (by simp <;> rfl) (by simp <;> rfl) ent15 (by simp <;> rfl) ?_
       refine Chain.sub (S' := mk 64 [] [(4, .ptr 4 0 0), (7, .i (n40 : Int)), (8, .i r43.1), (47, .b true), (52, .b false), (55, .d (.lit (.int .u8 v63))), (56, .b r64)] [(4, some (.box [.i 0, .d (.lit (.string (ByteArray.mk #[]))), .i 0, .i 0]))]) (by simp; exact Sub.table (by simp) (by simp)) ?_
       refine Chain.runQ 4 fun K hK => ?_; simp; refine hK _ _ ?_; clear hK K
       refine Chain.sub (S' := mk 64 [] [(4, .ptr 4 0 0), (7, .i (n40 : Int)), (8, .i r43.1), (10, .b (!r64))] [(4, some (.box [.i 0, .d (.lit (.string (ByteArray.mk #[]))), .i 0, .i 0]))]) Sub.tt ?_
       cases h
       exact Chain.nil Sub.tt
     ·have c61_ : decide (r57 = v60) = false := Bool.eq_false_iff.2 c61
      refine Chain.sub (Sub.bool 47 (b := decide (r57 = v60)) rfl c61_) ?_
      refine Chain.sub (S' := mk 64 [] [(0, .d (.lit (.string a0))), (4, .ptr 4 0 0), (7, .i (n40 : Int)), (8, .i r43.1), (47, .b false)] [(4, some (.box [.i 0, .d (.lit (.string (ByteArray.mk #[]))), .i 0, .i 0]))]) (by simp; exact Sub.table (by simp) (by simp)) ?_
      refine Chain.runQ 13 fun K hK => ?_; simp; refine hK _ _ ?_; clear hK K
      refine Chain.sub (S' := mk 64 [] [(4, .ptr 4 0 0), (7, .i (n40 : Int)), (8, .i r43.1), (10, .b false)] [(4, some (.box [.i 0, .d (.lit (.string (ByteArray.mk #[]))), .i 0, .i 0]))]) Sub.tt ?_
      cases h
      exact Chain.nil Sub.tt
    ·have c56_ : decide (r43.1 ≤ 1000000000000) = false := decide_eq_false c56
     refine Chain.sub (Sub.bool 38 (b := decide (r43.1 ≤ 1000000000000)) rfl c56_) ?_
     refine Chain.sub (S' := mk 64 [] [(0, .d (.lit (.string a0))), (1, .i (n41 : Int)), (4, .ptr 4 0 0), (7, .i (n40 : Int)), (8, .i r43.1), (38, .b false)] [(4, some (.box [.i 0, .d (.lit (.string (ByteArray.mk #[]))), .i 0, .i 0]))]) (by simp; exact Sub.table (by simp) (by simp)) ?_
     refine Chain.runQ 22 fun K hK => ?_; simp; refine hK _ _ ?_; clear hK K
     refine Chain.sub (S' := mk 64 [] [(4, .ptr 4 0 0), (7, .i (n40 : Int)), (8, .i r43.1), (10, .b false)] [(4, some (.box [.i 0, .d (.lit (.string (ByteArray.mk #[]))), .i 0, .i 0]))]) Sub.tt ?_
     cases h
     exact Chain.nil Sub.tt
   ·have c55_ : (!r43.2) = false := Bool.eq_false_iff.2 c55
    refine Chain.sub (Sub.bool 34 (b := (!r43.2)) rfl c55_) ?_
    refine Chain.sub (S' := mk 64 [] [(0, .d (.lit (.string a0))), (1, .i (n41 : Int)), (4, .ptr 4 0 0), (7, .i (n40 : Int)), (8, .i r43.1), (34, .b false)] [(4, some (.box [.i 0, .d (.lit (.string (ByteArray.mk #[]))), .i 0, .i 0]))]) (by simp; exact Sub.table (by simp) (by simp)) ?_
    refine Chain.runQ 26 fun K hK => ?_; simp; refine hK _ _ ?_; clear hK K
    refine Chain.sub (S' := mk 64 [] [(4, .ptr 4 0 0), (7, .i (n40 : Int)), (8, .i r43.1), (10, .b false)] [(4, some (.box [.i 0, .d (.lit (.string (ByteArray.mk #[]))), .i 0, .i 0]))]) Sub.tt ?_
    cases h
    exact Chain.nil Sub.tt
  ·clear hj
   refine AW.seqR ?_
   refine Chain.runK [] 7 fun K hK => ?_; simp; refine hK _ _ ?_; clear hK K
   refine Chain.sub (S' := mk 64 [] [(4, .ptr 4 0 0), (5, .i (n40 : Int)), (6, .b v54)] [(4, some (.box [.i 3, .d (.lit (.string (ByteArray.mk #[]))), .i r43.1, .i 0]))]) Sub.tt ?_
   refine Chain.nil ?_
   refine AW.ret ?_
   cases h
   exact FinC.ret (by simp) (by simp)

def d29 (_N : Nat) (a0 : ByteArray) (a1 : Int) : Option Int := some (Lib.indexByte a0.data.toList a1.toNat.toUInt8)
theorem p29 (N : Nat) (a0 : ByteArray) (a1 : Int) (r : Int) (h : d29 N a0 a1 = some r) : FunC Tryd.prog 29 [.d (.lit (.string a0)), .d (.lit (.int .u8 a1))] (.i r) := by
 injection h with h; subst h
 exact FunC.of_calls (vals := [.string a0, .int .u8 a1]) (by rintro E w vs ⟨_, _, rfl, ⟨rfl, _⟩, _, _, rfl, ⟨rfl, _⟩, rfl⟩; rfl) rfl (fun w g => (Tryd.strings_IndexByte a0 a1 w).mono (by rintro e w2 ⟨rfl, rfl⟩; exact ⟨rfl, .refl _ _⟩))

/-- stemma/lexer.argument -/
def d18 (N : Nat) (a0 : ByteArray) : Option (S29 × Int × Bool) :=
 Option.bind (α := Bool) (
  if (a0.size : Int) < 3 then (
   some true
  ) else
  (idxB a0 1).bind fun v10 =>
  (d16 N v10).bind fun r11 =>
  if (!r11) = true then (
   some true
  ) else
  if (a0.size : Int) > 3 then (
   (idxB a0 3).bind fun v14 =>
   (d15 N v14).bind fun r15 =>
   some r15
  ) else
  some false
 ) fun (v8 : Bool) =>
 if v8 = true then (
  some ((S29.mk 0 (ByteArray.mk #[]) 0 0), 0, false)
 ) else
 (idxB a0 2).bind fun v17 =>
 (d29 N (ByteArray.mk #[105, 98, 116]) v17).bind fun r18 =>
 if r18 < 0 then (
  some ((S29.mk 0 (ByteArray.mk #[]) 0 0), 0, false)
 ) else
 (idxB a0 1).bind fun v20 =>
 letv (IntKind.u8.wrap (v20 - 48)) fun v21 =>
 (chkI (v21)).bind fun v22 =>
 (natI 3 a0.size).bind fun _ =>
 (natI 2 3).bind fun _ =>
 letv (a0.extract 2 3) fun v25 =>
 some ((S29.mk 6 v25 v22 0), 3, true)
set_option maxRecDepth 100000 in
set_option maxHeartbeats 4000000 in
theorem p18 (N : Nat) (a0 : ByteArray) (r : (S29 × Int × Bool)) (h : d18 N a0 = some r) : FunC Tryd.prog 18 [.d (.lit (.string a0))] (.tup [.agg [.i r.1.Kind, .d (.lit (.string r.1.Text)), .i r.1.Number, .i r.1.Offset], .i r.2.1, .b r.2.2]) := by
 unfold d18 at h
 refine FunC.enter 39 [(0, .d (.lit (.string a0)))] (by simp) Tryd.func18 rfl (of_decide_eq_true rfl) rfl rfl ?_
 refine AW.seqR ?_
 refine Chain.runK [] 3 fun K hK => ?_; simp; refine hK _ _ ?_; clear hK K
 refine Chain.sub (S' := mk 39 [] [(0, .d (.lit (.string a0))), (2, .ptr 2 0 0)] [(2, some (.box [.i 0, .d (.lit (.string (ByteArray.mk #[]))), .i 0, .i 0]))]) Sub.tt ?_
 refine Chain.nil ?_
 refine AW.seq ?_
 replace h := bsome h; obtain ⟨v8, hj, h⟩ := h
 refine AW.cutR (mk 39 [] [(0, .d (.lit (.string a0))), (2, .ptr 2 0 0), (24, .b v8)] [(2, some (.box [.i 0, .d (.lit (.string (ByteArray.mk #[]))), .i 0, .i 0]))]) ?_ ?_
 ·clear h; have h := hj; clear hj
  refine Chain.runK [] 4 fun K hK => ?_; simp; refine hK _ _ ?_; clear hK K
  refine Chain.sub (S' := mk 39 [] [(0, .d (.lit (.string a0))), (2, .ptr 2 0 0), (9, .b (decide ((a0.size : Int) < 3)))] [(2, some (.box [.i 0, .d (.lit (.string (ByteArray.mk #[]))), .i 0, .i 0]))]) Sub.tt ?_
  replace h := isome h; rcases h with ⟨c9, h⟩ | ⟨c9, h⟩
  ·have c9_ : decide ((a0.size : Int) < 3) = true := decide_eq_true c9
   refine Chain.sub (Sub.bool 9 (b := decide ((a0.size : Int) < 3)) rfl c9_) ?_
   refine Chain.sub (S' := mk 39 [] [(0, .d (.lit (.string a0))), (2, .ptr 2 0 0), (9, .b true)] [(2, some (.box [.i 0, .d (.lit (.string (ByteArray.mk #[]))), .i 0, .i 0]))]) (by simp; exact Sub.table (by simp) (by simp)) ?_
   refine Chain.runK [] 15 fun K hK => ?_; simp; refine hK _ _ ?_; clear hK K
   refine Chain.sub (S' := mk 39 [] [(0, .d (.lit (.string a0))), (2, .ptr 2 0 0), (24, .b true)] [(2, some (.box [.i 0, .d (.lit (.string (ByteArray.mk #[]))), .i 0, .i 0]))]) Sub.tt ?_
   cases h
   exact Chain.nil Sub.tt
  ·have c9_ : decide ((a0.size : Int) < 3) = false := decide_eq_false c9
   refine Chain.sub (Sub.bool 9 (b := decide ((a0.size : Int) < 3)) rfl c9_) ?_
   refine Chain.sub (S' := mk 39 [] [(0, .d (.lit (.string a0))), (2, .ptr 2 0 0), (9, .b false)] [(2, some (.box [.i 0, .d (.lit (.string (ByteArray.mk #[]))), .i 0, .i 0]))]) (by simp; exact Sub.table (by simp) (by simp)) ?_
   replace h := bsome h; obtain ⟨v10, gv10, h⟩ := h
   obtain ⟨bv10, hv10a, hv10b⟩ := idxB_someN (n := 1) gv10
   refine Chain.runK [] 2 fun K hK => ?_; simp [hv10a, hv10b]; refine hK _ _ ?_; clear hK K
   refine Chain.sub (S' := mk 39 [] [(0, .d (.lit (.string a0))), (2, .ptr 2 0 0), (9, .b false), (11, .d (.lit (.int .u8 v10)))] [(2, some (.box [.i 0, .d (.lit (.string (ByteArray.mk #[]))), .i 0, .i 0]))]) Sub.tt ?_
   replace h := bsome h; obtain ⟨r11, hr11, h⟩ := h
   refine Chain.callL (d := 12) (p16 N v10 r11 hr11) (by simp) rfl rfl (by simp <;> rfl) (by simp <;> rfl) ent16 (by simp <;> rfl) ?_
   refine Chain.sub (S' := mk 39 [] [(0, .d (.lit (.string a0))), (2, .ptr 2 0 0), (9, .b false), (11, .d (.lit (.int .u8 v10))), (12, .b r11)] [(2, some (.box [.i 0, .d (.lit (.string (ByteArray.mk #[]))), .i 0, .i 0]))]) (by simp; exact Sub.table (by simp) (by simp)) ?_
   refine Chain.runK [] 3 fun K hK => ?_; simp; refine hK _ _ ?_; clear hK K
   refine Chain.sub (S' := mk 39 [] [(0, .d (.lit (.string a0))), (2, .ptr 2 0 0), (15, .b (!r11))] [(2, some (.box [.i 0, .d (.lit (.string (ByteArray.mk #[]))), .i 0, .i 0]))]) Sub.tt ?_
   replace h := isome h; rcases h with ⟨c12, h⟩ | ⟨c12, h⟩
   ·have c12_ : (!r11) = true := c12
    refine Chain.sub (Sub.bool 15 (b := (!r11)) rfl c12_) ?_
    refine Chain.sub (S' := mk 39 [] [(0, .d (.lit (.string a0))), (2, .ptr 2 0 0), (15, .b true)] [(2, some (.box [.i 0, .d (.lit (.string (ByteArray.mk #[]))), .i 0, .i 0]))]) (by simp; exact Sub.table (by simp) (by simp)) ?_
    refine Chain.runK [] 9 fun K hK => ?_; simp; refine hK _ _ ?_; clear hK K
    refine Chain.sub (S' := mk 39 [] [(0, .d (.lit (.string a0))), (2, .ptr 2 0 0), (24, .b true)] [(2, some (.box [.i 0, .d (.lit (.string (ByteArray.mk #[]))), .i 0, .i 0]))]) Sub.tt ?_
    cases h
    exact Chain.nil Sub.tt
   ·have c12_ : (!r11) = false := Bool.eq_false_iff.2 c12
    refine Chain.sub (Sub.bool 15 (b := (!r11)) rfl c12_) ?_
    refine Chain.sub (S' := mk 39 [] [(0, .d (.lit (.string a0))), (2, .ptr 2 0 0), (15, .b false)] [(2, some (.box [.i 0, .d (.lit (.string (ByteArray.mk #[]))), .i 0, .i 0]))]) (by simp; exact Sub.table (by simp) (by simp)) ?_
    refine Chain.runK [] 4 fun K hK => ?_; simp; refine hK _ _ ?_; clear hK K
    refine Chain.sub (S' := mk 39 [] [(0, .d (.lit (.string a0))), (2, .ptr 2 0 0), (15, .b false), (19, .b (decide ((a0.size : Int) > 3)))] [(2, some (.box [.i 0, .d (.lit (.string (ByteArray.mk #[]))), .i 0, .i 0]))]) Sub.tt ?_
    replace h := isome h; rcases h with ⟨c13, h⟩ | ⟨c13, h⟩
    ·have c13_ : decide ((a0.size : Int) > 3) = true := decide_eq_true c13
     refine Chain.sub (Sub.bool 19 (b := decide ((a0.size : Int) > 3)) rfl c13_) ?_
     refine Chain.sub (S' := mk 39 [] [(0, .d (.lit (.string a0))), (2, .ptr 2 0 0), (15, .b false), (19, .b true)] [(2, some (.box [.i 0, .d (.lit (.string (ByteArray.mk #[]))), .i 0, .i 0]))]) (by simp; exact Sub.table (by simp) (by simp)) ?_
     replace h := bsome h; obtain ⟨v14, gv14, h⟩ := h
     obtain ⟨bv14, hv14a, hv14b⟩ := idxB_someN (n := 3) gv14
     refine Chain.runK [] 2 fun K hK => ?_; simp [hv14a, hv14b]; refine hK _ _ ?_; clear hK K
     refine Chain.sub (S' := mk 39 [] [(0, .d (.lit (.string a0))), (2, .ptr 2 0 0), (15, .b false), (19, .b true), (21, .d (.lit (.int .u8 v14)))] [(2, some (.box [.i 0, .d (.lit (.string (ByteArray.mk #[]))), .i 0, .i 0]))]) Sub.tt ?_
     replace h := bsome h; obtain ⟨r15, hr15, h⟩ := h
     refine Chain.callL (d := 22) (p15 N v14 r15 hr15) (by simp) rfl rfl (by simp <;> rfl) (by simp <;> rfl) ent15 (by simp <;> rfl) ?_
     refine Chain.sub (S' := mk 39 [] [(0, .d (.lit (.string a0))), (2, .ptr 2 0 0), (15, .b false), (19, .b true), (21, .d (.lit (.int .u8 v14))), (22, .b r15)] [(2, some (.box [.i 0, .d (.lit (.string (ByteArray.mk #[]))), .i 0, .i 0]))]) (by simp; exact Sub.table (by simp) (by simp)) ?_
     refine Chain.runK [] 2 fun K hK => ?_; simp; refine hK _ _ ?_; clear hK K
     refine Chain.sub (S' := mk 39 [] [(0, .d (.lit (.string a0))), (2, .ptr 2 0 0), (24, .b r15)] [(2, some (.box [.i 0, .d (.lit (.string (ByteArray.mk #[]))), .i 0, .i 0]))]) Sub.tt ?_
     cases h
     exact Chain.nil Sub.tt
    ·have c13_ : decide ((a0.size : Int) > 3) = false := decide_eq_false c13
     refine Chain.sub (Sub.bool 19 (b := decide ((a0.size : Int) > 3)) rfl c13_) ?_
     refine Chain.sub (S' := mk 39 [] [(0, .d (.lit (.string a0))), (2, .ptr 2 0 0), (15, .b false), (19, .b false)] [(2, some (.box [.i 0, .d (.lit (.string (ByteArray.mk #[]))), .i 0, .i 0]))]) (by simp; exact Sub.table (by simp) (by simp)) ?_
     refine Chain.runK [] 5 fun K hK => ?_; simp; refine hK _ _ ?_; clear hK K
     refine Chain.sub (S' := mk 39 [] [(0, .d (.lit (.string a0))), (2, .ptr 2 0 0), (24, .b false)] [(2, some (.box [.i 0, .d (.lit (.string (ByteArray.mk #[]))), .i 0, .i 0]))]) Sub.tt ?_
     cases h
     exact Chain.nil Sub.tt
 ·clear hj
  replace h := isome h; rcases h with ⟨c16, h⟩ | ⟨c16, h⟩
  ·have c16_ : v8 = true := c16
   refine AW.condT (b := v8) rfl c16_ ?_
   refine AW.sub (Sub.bool 24 (b := v8) rfl c16_) ?_
   refine AW.sub (S' := mk 39 [] [(0, .d (.lit (.string a0))), (2, .ptr 2 0 0), (24, .b true)] [(2, some (.box [.i 0, .d (.lit (.string (ByteArray.mk #[]))), .i 0, .i 0]))]) (by simp; exact Sub.table (by simp) (by simp)) ?_
   refine AW.seqR ?_
   refine Chain.runK [] 4 fun K hK => ?_; simp; refine hK _ _ ?_; clear hK K
   refine Chain.sub (S' := mk 39 [] [(2, .ptr 2 0 0), (3, .i 0), (4, .b false)] [(2, some (.box [.i 0, .d (.lit (.string (ByteArray.mk #[]))), .i 0, .i 0]))]) Sub.tt ?_
   refine Chain.nil ?_
   refine AW.ret ?_
   cases h
   refine thenQ_pass (by simp) ?_
   exact FinC.ret (by simp) (by simp)
  ·have c16_ : v8 = false := Bool.eq_false_iff.2 c16
   refine AW.condF (b := v8) rfl c16_ ?_
   refine AW.sub (Sub.bool 24 (b := v8) rfl c16_) ?_
   refine AW.sub (S' := mk 39 [] [(0, .d (.lit (.string a0))), (2, .ptr 2 0 0), (24, .b false)] [(2, some (.box [.i 0, .d (.lit (.string (ByteArray.mk #[]))), .i 0, .i 0]))]) (by simp; exact Sub.table (by simp) (by simp)) ?_
   refine AW.skip ?_
   refine thenQ_normal ?_
   refine AW.seqR ?_
   replace h := bsome h; obtain ⟨v17, gv17, h⟩ := h
   obtain ⟨bv17, hv17a, hv17b⟩ := idxB_someN (n := 2) gv17
   refine Chain.runK [] 2 fun K hK => ?_; simp [hv17a, hv17b]; refine hK _ _ ?_; clear hK K
   refine Chain.sub (S' := mk 39 [] [(0, .d (.lit (.string a0))), (2, .ptr 2 0 0), (27, .d (.lit (.int .u8 v17)))] [(2, some (.box [.i 0, .d (.lit (.string (ByteArray.mk #[]))), .i 0, .i 0]))]) Sub.tt ?_
   replace h := bsome h; obtain ⟨r18, hr18, h⟩ := h
   refine Chain.callL (d := 28) (p29 N (ByteArray.mk #[105, 98, 116]) v17 r18 hr18) (by simp) rfl rfl (by simp <;> rfl) (by simp <;> rfl) ent29 (by simp <;> rfl) ?_
   refine Chain.sub (S' := mk 39 [] [(0, .d (.lit (.string a0))), (2, .ptr 2 0 0), (27, .d (.lit (.int .u8 v17))), (28, .i r18)] [(2, some (.box [.i 0, .d (.lit (.string (ByteArray.mk #[]))), .i 0, .i 0]))]) (by simp; exact Sub.table (by simp) (by simp)) ?_
   refine Chain.runK [] 1 fun K hK => ?_; simp; refine hK _ _ ?_; clear hK K
   refine Chain.sub (S' := mk 39 [] [(0, .d (.lit (.string a0))), (2, .ptr 2 0 0), (5, .i r18)] [(2, some (.box [.i 0, .d (.lit (.string (ByteArray.mk #[]))), .i 0, .i 0]))]) Sub.tt ?_
   refine Chain.nil ?_
   refine AW.seq ?_
   refine AW.seqR ?_
   refine Chain.runK [] 2 fun K hK => ?_; simp; refine hK _ _ ?_; clear hK K
   refine Chain.sub (S' := mk 39 [] [(0, .d (.lit (.string a0))), (2, .ptr 2 0 0), (30, .b (decide (r18 < 0)))] [(2, some (.box [.i 0, .d (.lit (.string (ByteArray.mk #[]))), .i 0, .i 0]))]) Sub.tt ?_
   refine Chain.nil ?_
   replace h := isome h; rcases h with ⟨c19, h⟩ | ⟨c19, h⟩
   ·have c19_ : decide (r18 < 0) = true := decide_eq_true c19
    refine AW.condT (b := decide (r18 < 0)) rfl c19_ ?_
    refine AW.sub (Sub.bool 30 (b := decide (r18 < 0)) rfl c19_) ?_
    refine AW.sub (S' := mk 39 [] [(0, .d (.lit (.string a0))), (2, .ptr 2 0 0), (30, .b true)] [(2, some (.box [.i 0, .d (.lit (.string (ByteArray.mk #[]))), .i 0, .i 0]))]) (by simp; exact Sub.table (by simp) (by simp)) ?_
    refine AW.seqR ?_
    refine Chain.runK [] 4 fun K hK => ?_; simp; refine hK _ _ ?_; clear hK K
    refine Chain.sub (S' := mk 39 [] [(2, .ptr 2 0 0), (3, .i 0), (4, .b false)] [(2, some (.box [.i 0, .d (.lit (.string (ByteArray.mk #[]))), .i 0, .i 0]))]) Sub.tt ?_
    refine Chain.nil ?_
    refine AW.ret ?_
    cases h
    refine thenQ_pass (by simp) ?_
    exact FinC.ret (by simp) (by simp)
   ·have c19_ : decide (r18 < 0) = false := decide_eq_false c19
    refine AW.condF (b := decide (r18 < 0)) rfl c19_ ?_
    refine AW.sub (Sub.bool 30 (b := decide (r18 < 0)) rfl c19_) ?_
    refine AW.sub (S' := mk 39 [] [(0, .d (.lit (.string a0))), (2, .ptr 2 0 0), (30, .b false)] [(2, some (.box [.i 0, .d (.lit (.string (ByteArray.mk #[]))), .i 0, .i 0]))]) (by simp; exact Sub.table (by simp) (by simp)) ?_
    refine AW.skip ?_
    refine thenQ_normal ?_
    replace h := bsome h; obtain ⟨v20, gv20, h⟩ := h
    obtain ⟨bv20, hv20a, hv20b⟩ := idxB_someN (n := 1) gv20
    replace h := lsome h; obtain ⟨v21, hv21, h⟩ := h
    replace h := bsome h; obtain ⟨v22, hv22, h⟩ := h
    have hv22 := chkI_some hv22
    replace h := bsome h; obtain ⟨n23, gn23, h⟩ := h
    obtain ⟨hn23a, hn23⟩ := natI_some gn23
    have hn23b : (3 : Int) ≤ ((a0.size : Nat) : Int) := by omega
    replace hn23 : 3 ≤ a0.size := by omega
    clear gn23 hn23a
    replace h := bsome h; obtain ⟨n24, gn24, h⟩ := h
    obtain ⟨hn24a, hn24⟩ := natI_some gn24
    have hn24b : (2 : Int) ≤ ((3 : Nat) : Int) := by omega
    replace hn24 : 2 ≤ 3 := by omega
    clear gn24 hn24a
    replace h := lsome h; obtain ⟨v25, hv25, h⟩ := h
    refine AW.seqT 7 (by kernel_rfl) (by kernel_rfl) fun K hK => ?_; simp [hv20a, hv20b, hv21, hv22, hn23b, hv25]; refine hK _ _ ?_; clear hK K
    refine Chain.sub (S' := mk 39 [] [(2, .ptr 2 0 0), (38, .agg [.i 6, .d (.lit (.string v25)), .i v22, .i 0])] [(2, some (.box [.i 0, .d (.lit (.string (ByteArray.mk #[]))), .i 0, .i 0]))]) Sub.tt ?_
    refine Chain.runK [] 3 fun K hK => ?_; simp; refine hK _ _ ?_; clear hK K
    refine Chain.sub (S' := mk 39 [] [(2, .ptr 2 0 0), (3, .i 3), (4, .b true)] [(2, some (.box [.i 6, .d (.lit (.string v25)), .i v22, .i 0]))]) Sub.tt ?_
    refine Chain.nil ?_
    refine AW.ret ?_
    cases h
    exact FinC.ret (by simp) (by simp)

end Go.Proofs.YtdiekinmoklonabDoor
