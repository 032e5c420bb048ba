/- Functions of the program as functional programs; the code computes them. -/
import Derived.Test.YtdiekinmoklonabDoorLx3
namespace Go.Proofs.YtdiekinmoklonabDoor
open Go.Ab Go.Rp
attribute [-simp] List.all_eq_true Array.all_toList Array.all_eq_true

/-- stemma/stemref3.keyword -/
def d23 (_N : Nat) (a0 : ByteArray) : Option Bool :=
 if decide (a0 = (ByteArray.mk #[97, 103, 103, 114, 101, 103, 97, 116, 101])) = true then (
  some true
 ) else
 if decide (a0 = (ByteArray.mk #[97, 110, 100])) = true then (
  some true
 ) else
 if decide (a0 = (ByteArray.mk #[97, 115])) = true then (
  some true
 ) else
 if decide (a0 = (ByteArray.mk #[98, 121])) = true then (
  some true
 ) else
 if decide (a0 = (ByteArray.mk #[100, 101, 115, 99])) = true then (
  some true
 ) else
 if decide (a0 = (ByteArray.mk #[101, 108, 115, 101])) = true then (
  some true
 ) else
 if decide (a0 = (ByteArray.mk #[101, 120, 99, 101, 112, 116])) = true then (
  some true
 ) else
 if decide (a0 = (ByteArray.mk #[102, 97, 108, 115, 101])) = true then (
  some true
 ) else
 if decide (a0 = (ByteArray.mk #[103, 114, 111, 117, 112])) = true then (
  some true
 ) else
 if decide (a0 = (ByteArray.mk #[105, 102])) = true then (
  some true
 ) else
 if decide (a0 = (ByteArray.mk #[105, 115])) = true then (
  some true
 ) else
 if decide (a0 = (ByteArray.mk #[106, 111, 105, 110])) = true then (
  some true
 ) else
 if decide (a0 = (ByteArray.mk #[108, 101, 102, 116])) = true then (
  some true
 ) else
 if decide (a0 = (ByteArray.mk #[108, 101, 110, 103, 116, 104])) = true then (
  some true
 ) else
 if decide (a0 = (ByteArray.mk #[108, 105, 109, 105, 116])) = true then (
  some true
 ) else
 if decide (a0 = (ByteArray.mk #[110, 111, 116])) = true then (
  some true
 ) else
 if decide (a0 = (ByteArray.mk #[110, 117, 108, 108])) = true then (
  some true
 ) else
 if decide (a0 = (ByteArray.mk #[111, 102, 102, 115, 101, 116])) = true then (
  some true
 ) else
 if decide (a0 = (ByteArray.mk #[111, 110])) = true then (
  some true
 ) else
 if decide (a0 = (ByteArray.mk #[111, 114])) = true then (
  some true
 ) else
 if decide (a0 = (ByteArray.mk #[112, 114, 111, 106, 101, 99, 116])) = true then (
  some true
 ) else
 if decide (a0 = (ByteArray.mk #[115, 99, 97, 110])) = true then (
  some true
 ) else
 if decide (a0 = (ByteArray.mk #[115, 111, 114, 116])) = true then (
  some true
 ) else
 if decide (a0 = (ByteArray.mk #[116, 104, 101, 110])) = true then (
  some true
 ) else
 if decide (a0 = (ByteArray.mk #[116, 114, 117, 101])) = true then (
  some true
 ) else
 if decide (a0 = (ByteArray.mk #[117, 110, 105, 111, 110])) = true then (
  some true
 ) else
 if decide (a0 = (ByteArray.mk #[119, 104, 101, 114, 101])) = true then (
  some true
 ) else
 some false
set_option maxRecDepth 100000 in
set_option maxHeartbeats 4000000 in
theorem p23 (N : Nat) (a0 : ByteArray) (r : Bool) (h : d23 N a0 = some r) : FunC Tryd.prog 23 [.d (.lit (.string a0))] (.b r) := by
 unfold d23 at h
 refine FunC.enter 32 [(0, .d (.lit (.string a0)))] (by simp) Tryd.func23 rfl (of_decide_eq_true rfl) rfl rfl ?_
 refine AW.seqR ?_
 refine Chain.runK [] 1 fun K hK => ?_; simp; refine hK _ _ ?_; clear hK K
 refine Chain.sub (S' := mk 32 [] [(0, .d (.lit (.string a0)))] []) Sub.tt ?_
 refine Chain.nil ?_
 refine AW.seq ?_
 refine AW.seqR ?_
 refine Chain.runK [] 1 fun K hK => ?_; simp; refine hK _ _ ?_; clear hK K
 refine Chain.sub (S' := mk 32 [] [(3, .d (.lit (.string a0)))] []) Sub.tt ?_
 refine Chain.nil ?_
 refine AW.block ?_
 refine AW.seq ?_
 refine AW.seqR ?_
 refine Chain.runK [] 2 fun K hK => ?_; simp; refine hK _ _ ?_; clear hK K
 refine Chain.sub (S' := mk 32 [] [(3, .d (.lit (.string a0))), (4, .b (decide (a0 = (ByteArray.mk #[97, 103, 103, 114, 101, 103, 97, 116, 101]))))] []) Sub.tt ?_
 refine Chain.nil ?_
 replace h := isome h; rcases h with ⟨c1, h⟩ | ⟨c1, h⟩
 ·have c1_ : decide (a0 = (ByteArray.mk #[97, 103, 103, 114, 101, 103, 97, 116, 101])) = true := c1
  refine AW.condT (b := decide (a0 = (ByteArray.mk #[97, 103, 103, 114, 101, 103, 97, 116, 101]))) rfl c1_ ?_
  refine AW.sub (Sub.bool 4 (b := decide (a0 = (ByteArray.mk #[97, 103, 103, 114, 101, 103, 97, 116, 101]))) rfl c1_) ?_
  refine AW.sub (S' := mk 32 [] [(3, .d (.lit (.string a0))), (4, .b true)] []) (by simp; exact Sub.table (by simp) (by simp)) ?_
  refine AW.skip ?_
  refine thenQ_normal ?_
  refine AW.condK fun K1 K2 k1 k2 => ?_; simp; refine k1 ?_; clear k1 k2 K1 K2
  refine AW.seqR ?_
  refine Chain.runK [] 1 fun K hK => ?_; simp; refine hK _ _ ?_; clear hK K
  refine Chain.sub (S' := mk 32 [] [(2, .b true)] []) Sub.tt ?_
  refine Chain.nil ?_
  refine AW.ret ?_
  cases h
  refine blockQ.ret ?_
  refine thenQ_pass (by simp) ?_
  exact FinC.ret (by simp) (by simp)
 ·have c1_ : decide (a0 = (ByteArray.mk #[97, 103, 103, 114, 101, 103, 97, 116, 101])) = false := Bool.eq_false_iff.2 c1
  refine AW.condF (b := decide (a0 = (ByteArray.mk #[97, 103, 103, 114, 101, 103, 97, 116, 101]))) rfl c1_ ?_
  refine AW.sub (Sub.bool 4 (b := decide (a0 = (ByteArray.mk #[97, 103, 103, 114, 101, 103, 97, 116, 101]))) rfl c1_) ?_
  refine AW.sub (S' := mk 32 [] [(3, .d (.lit (.string a0))), (4, .b false)] []) (by simp; exact Sub.table (by simp) (by simp)) ?_
  refine AW.seqR ?_
  refine Chain.runK [] 2 fun K hK => ?_; simp; refine hK _ _ ?_; clear hK K
  refine Chain.sub (S' := mk 32 [] [(3, .d (.lit (.string a0))), (4, .b (decide (a0 = (ByteArray.mk #[97, 110, 100]))))] []) Sub.tt ?_
  refine Chain.nil ?_
  replace h := isome h; rcases h with ⟨c2, h⟩ | ⟨c2, h⟩
  ·have c2_ : decide (a0 = (ByteArray.mk #[97, 110, 100])) = true := c2
   refine AW.condT (b := decide (a0 = (ByteArray.mk #[97, 110, 100]))) rfl c2_ ?_
   refine AW.sub (Sub.bool 4 (b := decide (a0 = (ByteArray.mk #[97, 110, 100]))) rfl c2_) ?_
   refine AW.sub (S' := mk 32 [] [(3, .d (.lit (.string a0))), (4, .b true)] []) (by simp; exact Sub.table (by simp) (by simp)) ?_
   refine AW.skip ?_
   refine thenQ_normal ?_
   refine AW.condK fun K1 K2 k1 k2 => ?_; simp; refine k1 ?_; clear k1 k2 K1 K2
   refine AW.seqR ?_
   refine Chain.runK [] 1 fun K hK => ?_; simp; refine hK _ _ ?_; clear hK K
   refine Chain.sub (S' := mk 32 [] [(2, .b true)] []) Sub.tt ?_
   refine Chain.nil ?_
   refine AW.ret ?_
   cases h
   refine blockQ.ret ?_
   refine thenQ_pass (by simp) ?_
   exact FinC.ret (by simp) (by simp)
  ·have c2_ : decide (a0 = (ByteArray.mk #[97, 110, 100])) = false := Bool.eq_false_iff.2 c2
   refine AW.condF (b := decide (a0 = (ByteArray.mk #[97, 110, 100]))) rfl c2_ ?_
   refine AW.sub (Sub.bool 4 (b := decide (a0 = (ByteArray.mk #[97, 110, 100]))) rfl c2_) ?_
   refine AW.sub (S' := mk 32 [] [(3, .d (.lit (.string a0))), (4, .b false)] []) (by simp; exact Sub.table (by simp) (by simp)) ?_
   refine AW.seqR ?_
   refine Chain.runK [] 2 fun K hK => ?_; simp; refine hK _ _ ?_; clear hK K
   refine Chain.sub (S' := mk 32 [] [(3, .d (.lit (.string a0))), (4, .b (decide (a0 = (ByteArray.mk #[97, 115]))))] []) Sub.tt ?_
   refine Chain.nil ?_
   replace h := isome h; rcases h with ⟨c3, h⟩ | ⟨c3, h⟩
   ·have c3_ : decide (a0 = (ByteArray.mk #[97, 115])) = true := c3
    refine AW.condT (b := decide (a0 = (ByteArray.mk #[97, 115]))) rfl c3_ ?_
    refine AW.sub (Sub.bool 4 (b := decide (a0 = (ByteArray.mk #[97, 115]))) rfl c3_) ?_
    refine AW.sub (S' := mk 32 [] [(3, .d (.lit (.string a0))), (4, .b true)] []) (by simp; exact Sub.table (by simp) (by simp)) ?_
    refine AW.skip ?_
    refine thenQ_normal ?_
    refine AW.condK fun K1 K2 k1 k2 => ?_; simp; refine k1 ?_; clear k1 k2 K1 K2
    refine AW.seqR ?_
    refine Chain.runK [] 1 fun K hK => ?_; simp; refine hK _ _ ?_; clear hK K
    refine Chain.sub (S' := mk 32 [] [(2, .b true)] []) Sub.tt ?_
    refine Chain.nil ?_
    refine AW.ret ?_
    cases h
    refine blockQ.ret ?_
    refine thenQ_pass (by simp) ?_
    exact FinC.ret (by simp) (by simp)
   ·have c3_ : decide (a0 = (ByteArray.mk #[97, 115])) = false := Bool.eq_false_iff.2 c3
    refine AW.condF (b := decide (a0 = (ByteArray.mk #[97, 115]))) rfl c3_ ?_
    refine AW.sub (Sub.bool 4 (b := decide (a0 = (ByteArray.mk #[97, 115]))) rfl c3_) ?_
    refine AW.sub (S' := mk 32 [] [(3, .d (.lit (.string a0))), (4, .b false)] []) (by simp; exact Sub.table (by simp) (by simp)) ?_
    refine AW.seqR ?_
    refine Chain.runK [] 2 fun K hK => ?_; simp; refine hK _ _ ?_; clear hK K
    refine Chain.sub (S' := mk 32 [] [(3, .d (.lit (.string a0))), (4, .b (decide (a0 = (ByteArray.mk #[98, 121]))))] []) Sub.tt ?_
    refine Chain.nil ?_
    replace h := isome h; rcases h with ⟨c4, h⟩ | ⟨c4, h⟩
    ·have c4_ : decide (a0 = (ByteArray.mk #[98, 121])) = true := c4
     refine AW.condT (b := decide (a0 = (ByteArray.mk #[98, 121]))) rfl c4_ ?_
     refine AW.sub (Sub.bool 4 (b := decide (a0 = (ByteArray.mk #[98, 121]))) rfl c4_) ?_
     refine AW.sub (S' := mk 32 [] [(3, .d (.lit (.string a0))), (4, .b true)] []) (by simp; exact Sub.table (by simp) (by simp)) ?_
     refine AW.skip ?_
     refine thenQ_normal ?_
     refine AW.condK fun K1 K2 k1 k2 => ?_; simp; refine k1 ?_; clear k1 k2 K1 K2
     refine AW.seqR ?_
     refine Chain.runK [] 1 fun K hK => ?_; simp; refine hK _ _ ?_; clear hK K
     refine Chain.sub (S' := mk 32 [] [(2, .b true)] []) Sub.tt ?_
     refine Chain.nil ?_
     refine AW.ret ?_
     cases h
     refine blockQ.ret ?_
     refine thenQ_pass (by simp) ?_
     exact FinC.ret (by simp) (by simp)
    ·have c4_ : decide (a0 = (ByteArray.mk #[98, 121])) = false := Bool.eq_false_iff.2 c4
     refine AW.condF (b := decide (a0 = (ByteArray.mk #[98, 121]))) rfl c4_ ?_
     refine AW.sub (Sub.bool 4 (b := decide (a0 = (ByteArray.mk #[98, 121]))) rfl c4_) ?_
     refine AW.sub (S' := mk 32 [] [(3, .d (.lit (.string a0))), (4, .b false)] []) (by simp; exact Sub.table (by simp) (by simp)) ?_
     refine AW.seqR ?_
     refine Chain.runK [] 2 fun K hK => ?_; simp; refine hK _ _ ?_; clear hK K
     refine Chain.sub (S' := mk 32 [] [(3, .d (.lit (.string a0))), (4, .b (decide (a0 = (ByteArray.mk #[100, 101, 115, 99]))))] []) Sub.tt ?_
     refine Chain.nil ?_
     replace h := isome h; rcases h with ⟨c5, h⟩ | ⟨c5, h⟩
     ·have c5_ : decide (a0 = (ByteArray.mk #[100, 101, 115, 99])) = true := c5
      refine AW.condT (b := decide (a0 = (ByteArray.mk #[100, 101, 115, 99]))) rfl c5_ ?_
      refine AW.sub (Sub.bool 4 (b := decide (a0 = (ByteArray.mk #[100, 101, 115, 99]))) rfl c5_) ?_
      refine AW.sub (S' := mk 32 [] [(3, .d (.lit (.string a0))), (4, .b true)] []) (by simp; exact Sub.table (by simp) (by simp)) ?_
      refine AW.skip ?_
      refine thenQ_normal ?_
      refine AW.condK fun K1 K2 k1 k2 => ?_; simp; refine k1 ?_; clear k1 k2 K1 K2
      refine AW.seqR ?_
      refine Chain.runK [] 1 fun K hK => ?_; simp; refine hK _ _ ?_; clear hK K
      refine Chain.sub (S' := mk 32 [] [(2, .b true)] []) Sub.tt ?_
      refine Chain.nil ?_
      refine AW.ret ?_
      cases h
      refine blockQ.ret ?_
      refine thenQ_pass (by simp) ?_
      exact FinC.ret (by simp) (by simp)
     ·have c5_ : decide (a0 = (ByteArray.mk #[100, 101, 115, 99])) = false := Bool.eq_false_iff.2 c5
      refine AW.condF (b := decide (a0 = (ByteArray.mk #[100, 101, 115, 99]))) rfl c5_ ?_
      refine AW.sub (Sub.bool 4 (b := decide (a0 = (ByteArray.mk #[100, 101, 115, 99]))) rfl c5_) ?_
      refine AW.sub (S' := mk 32 [] [(3, .d (.lit (.string a0))), (4, .b false)] []) (by simp; exact Sub.table (by simp) (by simp)) ?_
      refine AW.seqR ?_
      refine Chain.runK [] 2 fun K hK => ?_; simp; refine hK _ _ ?_; clear hK K
      refine Chain.sub (S' := mk 32 [] [(3, .d (.lit (.string a0))), (4, .b (decide (a0 = (ByteArray.mk #[101, 108, 115, 101]))))] []) Sub.tt ?_
      refine Chain.nil ?_
      replace h := isome h; rcases h with ⟨c6, h⟩ | ⟨c6, h⟩
      ·have c6_ : decide (a0 = (ByteArray.mk #[101, 108, 115, 101])) = true := c6
       refine AW.condT (b := decide (a0 = (ByteArray.mk #[101, 108, 115, 101]))) rfl c6_ ?_
       refine AW.sub (Sub.bool 4 (b := decide (a0 = (ByteArray.mk #[101, 108, 115, 101]))) rfl c6_) ?_
       refine AW.sub (S' := mk 32 [] [(3, .d (.lit (.string a0))), (4, .b true)] []) (by simp; exact Sub.table (by simp) (by simp)) ?_
       refine AW.skip ?_
       refine thenQ_normal ?_
       refine AW.condK fun K1 K2 k1 k2 => ?_; simp; refine k1 ?_; clear k1 k2 K1 K2
       refine AW.seqR ?_
       refine Chain.runK [] 1 fun K hK => ?_; simp; refine hK _ _ ?_; clear hK K
       refine Chain.sub (S' := mk 32 [] [(2, .b true)] []) Sub.tt ?_
       refine Chain.nil ?_
       refine AW.ret ?_
       cases h
       refine blockQ.ret ?_
       refine thenQ_pass (by simp) ?_
       exact FinC.ret (by simp) (by simp)
      ·have c6_ : decide (a0 = (ByteArray.mk #[101, 108, 115, 101])) = false := Bool.eq_false_iff.2 c6
       refine AW.condF (b := decide (a0 = (ByteArray.mk #[101, 108, 115, 101]))) rfl c6_ ?_
       refine AW.sub (Sub.bool 4 (b := decide (a0 = (ByteArray.mk #[101, 108, 115, 101]))) rfl c6_) ?_
       refine AW.sub (S' := mk 32 [] [(3, .d (.lit (.string a0))), (4, .b false)] []) (by simp; exact Sub.table (by simp) (by simp)) ?_
       refine AW.seqR ?_
       refine Chain.runK [] 2 fun K hK => ?_; simp; refine hK _ _ ?_; clear hK K
       refine Chain.sub (S' := mk 32 [] [(3, .d (.lit (.string a0))), (4, .b (decide (a0 = (ByteArray.mk #[101, 120, 99, 101, 112, 116]))))] []) Sub.tt ?_
       refine Chain.nil ?_
       replace h := isome h; rcases h with ⟨c7, h⟩ | ⟨c7, h⟩
       ·have c7_ : decide (a0 = (ByteArray.mk #[101, 120, 99, 101, 112, 116])) = true := c7
        refine AW.condT (b := decide (a0 = (ByteArray.mk #[101, 120, 99, 101, 112, 116]))) rfl c7_ ?_
        refine AW.sub (Sub.bool 4 (b := decide (a0 = (ByteArray.mk #[101, 120, 99, 101, 112, 116]))) rfl c7_) ?_
        refine AW.sub (S' := mk 32 [] [(3, .d (.lit (.string a0))), (4, .b true)] []) (by simp; exact Sub.table (by simp) (by simp)) ?_
        refine AW.skip ?_
        refine thenQ_normal ?_
        refine AW.condK fun K1 K2 k1 k2 => ?_; simp; refine k1 ?_; clear k1 k2 K1 K2
        refine AW.seqR ?_
        refine Chain.runK [] 1 fun K hK => ?_; simp; refine hK _ _ ?_; clear hK K
        refine Chain.sub (S' := mk 32 [] [(2, .b true)] []) Sub.tt ?_
        refine Chain.nil ?_
        refine AW.ret ?_
        cases h
        refine blockQ.ret ?_
        refine thenQ_pass (by simp) ?_
        exact FinC.ret (by simp) (by simp)
       ·have c7_ : decide (a0 = (ByteArray.mk #[101, 120, 99, 101, 112, 116])) = false := Bool.eq_false_iff.2 c7
        refine AW.condF (b := decide (a0 = (ByteArray.mk #[101, 120, 99, 101, 112, 116]))) rfl c7_ ?_
        refine AW.sub (Sub.bool 4 (b := decide (a0 = (ByteArray.mk #[101, 120, 99, 101, 112, 116]))) rfl c7_) ?_
        refine AW.sub (S' := mk 32 [] [(3, .d (.lit (.string a0))), (4, .b false)] []) (by simp; exact Sub.table (by simp) (by simp)) ?_
        refine AW.seqR ?_
        refine Chain.runK [] 2 fun K hK => ?_; simp; refine hK _ _ ?_; clear hK K
        refine Chain.sub (S' := mk 32 [] [(3, .d (.lit (.string a0))), (4, .b (decide (a0 = (ByteArray.mk #[102, 97, 108, 115, 101]))))] []) Sub.tt ?_
        refine Chain.nil ?_
        replace h := isome h; rcases h with ⟨c8, h⟩ | ⟨c8, h⟩
        ·have c8_ : decide (a0 = (ByteArray.mk #[102, 97, 108, 115, 101])) = true := c8
         refine AW.condT (b := decide (a0 = (ByteArray.mk #[102, 97, 108, 115, 101]))) rfl c8_ ?_
         refine AW.sub (Sub.bool 4 (b := decide (a0 = (ByteArray.mk #[102, 97, 108, 115, 101]))) rfl c8_) ?_
         refine AW.sub (S' := mk 32 [] [(3, .d (.lit (.string a0))), (4, .b true)] []) (by simp; exact Sub.table (by simp) (by simp)) ?_
         refine AW.skip ?_
         refine thenQ_normal ?_
         refine AW.condK fun K1 K2 k1 k2 => ?_; simp; refine k1 ?_; clear k1 k2 K1 K2
         refine AW.seqR ?_
         refine Chain.runK [] 1 fun K hK => ?_; simp; refine hK _ _ ?_; clear hK K
         refine Chain.sub (S' := mk 32 [] [(2, .b true)] []) Sub.tt ?_
         refine Chain.nil ?_
         refine AW.ret ?_
         cases h
         refine blockQ.ret ?_
         refine thenQ_pass (by simp) ?_
         exact FinC.ret (by simp) (by simp)
        ·have c8_ : decide (a0 = (ByteArray.mk #[102, 97, 108, 115, 101])) = false := Bool.eq_false_iff.2 c8
         refine AW.condF (b := decide (a0 = (ByteArray.mk #[102, 97, 108, 115, 101]))) rfl c8_ ?_
         refine AW.sub (Sub.bool 4 (b := decide (a0 = (ByteArray.mk #[102, 97, 108, 115, 101]))) rfl c8_) ?_
         refine AW.sub (S' := mk 32 [] [(3, .d (.lit (.string a0))), (4, .b false)] []) (by simp; exact Sub.table (by simp) (by simp)) ?_
         refine AW.seqR ?_
         refine Chain.runK [] 2 fun K hK => ?_; simp; refine hK _ _ ?_; clear hK K
         refine Chain.sub (S' := mk 32 [] [(3, .d (.lit (.string a0))), (4, .b (decide (a0 = (ByteArray.mk #[103, 114, 111, 117, 112]))))] []) Sub.tt ?_
         refine Chain.nil ?_
         replace h := isome h; rcases h with ⟨c9, h⟩ | ⟨c9, h⟩
         ·have c9_ : decide (a0 = (ByteArray.mk #[103, 114, 111, 117, 112])) = true := c9
          refine AW.condT (b := decide (a0 = (ByteArray.mk #[103, 114, 111, 117, 112]))) rfl c9_ ?_
          refine AW.sub (Sub.bool 4 (b := decide (a0 = (ByteArray.mk #[103, 114, 111, 117, 112]))) rfl c9_) ?_
          refine AW.sub (S' := mk 32 [] [(3, .d (.lit (.string a0))), (4, .b true)] []) (by simp; exact Sub.table (by simp) (by simp)) ?_
          refine AW.skip ?_
          refine thenQ_normal ?_
          refine AW.condK fun K1 K2 k1 k2 => ?_; simp; refine k1 ?_; clear k1 k2 K1 K2
          refine AW.seqR ?_
          refine Chain.runK [] 1 fun K hK => ?_; simp; refine hK _ _ ?_; clear hK K
          refine Chain.sub (S' := mk 32 [] [(2, .b true)] []) Sub.tt ?_
          refine Chain.nil ?_
          refine AW.ret ?_
          cases h
          refine blockQ.ret ?_
          refine thenQ_pass (by simp) ?_
          exact FinC.ret (by simp) (by simp)
         ·have c9_ : decide (a0 = (ByteArray.mk #[103, 114, 111, 117, 112])) = false := Bool.eq_false_iff.2 c9
          refine AW.condF (b := decide (a0 = (ByteArray.mk #[103, 114, 111, 117, 112]))) rfl c9_ ?_
          refine AW.sub (Sub.bool 4 (b := decide (a0 = (ByteArray.mk #[103, 114, 111, 117, 112]))) rfl c9_) ?_
          refine AW.sub (S' := mk 32 [] [(3, .d (.lit (.string a0))), (4, .b false)] []) (by simp; exact Sub.table (by simp) (by simp)) ?_
          refine AW.seqR ?_
          refine Chain.runK [] 2 fun K hK => ?_; simp; refine hK _ _ ?_; clear hK K
          refine Chain.sub (S' := mk 32 [] [(3, .d (.lit (.string a0))), (4, .b (decide (a0 = (ByteArray.mk #[105, 102]))))] []) Sub.tt ?_
          refine Chain.nil ?_
          replace h := isome h; rcases h with ⟨c10, h⟩ | ⟨c10, h⟩
          ·have c10_ : decide (a0 = (ByteArray.mk #[105, 102])) = true := c10
           refine AW.condT (b := decide (a0 = (ByteArray.mk #[105, 102]))) rfl c10_ ?_
           refine AW.sub (Sub.bool 4 (b := decide (a0 = (ByteArray.mk #[105, 102]))) rfl c10_) ?_
           refine AW.sub (S' := mk 32 [] [(3, .d (.lit (.string a0))), (4, .b true)] []) (by simp; exact Sub.table (by simp) (by simp)) ?_
           refine AW.skip ?_
           refine thenQ_normal ?_
           refine AW.condK fun K1 K2 k1 k2 => ?_; simp; refine k1 ?_; clear k1 k2 K1 K2
           refine AW.seqR ?_
           refine Chain.runK [] 1 fun K hK => ?_; simp; refine hK _ _ ?_; clear hK K
           refine Chain.sub (S' := mk 32 [] [(2, .b true)] []) Sub.tt ?_
           refine Chain.nil ?_
           refine AW.ret ?_
           cases h
           refine blockQ.ret ?_
           refine thenQ_pass (by simp) ?_
           exact FinC.ret (by simp) (by simp)
          ·have c10_ : decide (a0 = (ByteArray.mk #[105, 102])) = false := Bool.eq_false_iff.2 c10
           refine AW.condF (b := decide (a0 = (ByteArray.mk #[105, 102]))) rfl c10_ ?_
           refine AW.sub (Sub.bool 4 (b := decide (a0 = (ByteArray.mk #[105, 102]))) rfl c10_) ?_
           refine AW.sub (S' := mk 32 [] [(3, .d (.lit (.string a0))), (4, .b false)] []) (by simp; exact Sub.table (by simp) (by simp)) ?_
           refine AW.seqR ?_
           refine Chain.runK [] 2 fun K hK => ?_; simp; refine hK _ _ ?_; clear hK K
           refine Chain.sub (S' := mk 32 [] [(3, .d (.lit (.string a0))), (4, .b (decide (a0 = (ByteArray.mk #[105, 115]))))] []) Sub.tt ?_
           refine Chain.nil ?_
           replace h := isome h; rcases h with ⟨c11, h⟩ | ⟨c11, h⟩
           ·have c11_ : decide (a0 = (ByteArray.mk #[105, 115])) = true := c11
            refine AW.condT (b := decide (a0 = (ByteArray.mk #[105, 115]))) rfl c11_ ?_
            refine AW.sub (Sub.bool 4 (b := decide (a0 = (ByteArray.mk #[105, 115]))) rfl c11_) ?_
            refine AW.sub (S' := mk 32 [] [(3, .d (.lit (.string a0))), (4, .b true)] []) (by simp; exact Sub.table (by simp) (by simp)) ?_
            refine AW.skip ?_
            refine thenQ_normal ?_
            refine AW.condK fun K1 K2 k1 k2 => ?_; simp; refine k1 ?_; clear k1 k2 K1 K2
            refine AW.seqR ?_
            refine Chain.runK [] 1 fun K hK => ?_; simp; refine hK _ _ ?_; clear hK K
            refine Chain.sub (S' := mk 32 [] [(2, .b true)] []) Sub.tt ?_
            refine Chain.nil ?_
            refine AW.ret ?_
            cases h
            refine blockQ.ret ?_
            refine thenQ_pass (by simp) ?_
            exact FinC.ret (by simp) (by simp)
           ·have c11_ : decide (a0 = (ByteArray.mk #[105, 115])) = false := Bool.eq_false_iff.2 c11
            refine AW.condF (b := decide (a0 = (ByteArray.mk #[105, 115]))) rfl c11_ ?_
            refine AW.sub (Sub.bool 4 (b := decide (a0 = (ByteArray.mk #[105, 115]))) rfl c11_) ?_
            refine AW.sub (S' := mk 32 [] [(3, .d (.lit (.string a0))), (4, .b false)] []) (by simp; exact Sub.table (by simp) (by simp)) ?_
            refine AW.seqR ?_
            refine Chain.runK [] 2 fun K hK => ?_; simp; refine hK _ _ ?_; clear hK K
            refine Chain.sub (S' := mk 32 [] [(3, .d (.lit (.string a0))), (4, .b (decide (a0 = (ByteArray.mk #[106, 111, 105, 110]))))] []) Sub.tt ?_
            refine Chain.nil ?_
            replace h := isome h; rcases h with ⟨c12, h⟩ | ⟨c12, h⟩
            ·have c12_ : decide (a0 = (ByteArray.mk #[106, 111, 105, 110])) = true := c12
             refine AW.condT (b := decide (a0 = (ByteArray.mk #[106, 111, 105, 110]))) rfl c12_ ?_
             refine AW.sub (Sub.bool 4 (b := decide (a0 = (ByteArray.mk #[106, 111, 105, 110]))) rfl c12_) ?_
             refine AW.sub (S' := mk 32 [] [(3, .d (.lit (.string a0))), (4, .b true)] []) (by simp; exact Sub.table (by simp) (by simp)) ?_
             refine AW.skip ?_
             refine thenQ_normal ?_
             refine AW.condK fun K1 K2 k1 k2 => ?_; simp; refine k1 ?_; clear k1 k2 K1 K2
             refine AW.seqR ?_
             refine Chain.runK [] 1 fun K hK => ?_; simp; refine hK _ _ ?_; clear hK K
             refine Chain.sub (S' := mk 32 [] [(2, .b true)] []) Sub.tt ?_
             refine Chain.nil ?_
             refine AW.ret ?_
             cases h
             refine blockQ.ret ?_
             refine thenQ_pass (by simp) ?_
             exact FinC.ret (by simp) (by simp)
            ·have c12_ : decide (a0 = (ByteArray.mk #[106, 111, 105, 110])) = false := Bool.eq_false_iff.2 c12
             refine AW.condF (b := decide (a0 = (ByteArray.mk #[106, 111, 105, 110]))) rfl c12_ ?_
             refine AW.sub (Sub.bool 4 (b := decide (a0 = (ByteArray.mk #[106, 111, 105, 110]))) rfl c12_) ?_
             refine AW.sub (S' := mk 32 [] [(3, .d (.lit (.string a0))), (4, .b false)] []) (by simp; exact Sub.table (by simp) (by simp)) ?_
             refine AW.seqR ?_
             refine Chain.runK [] 2 fun K hK => ?_; simp; refine hK _ _ ?_; clear hK K
             refine Chain.sub (S' := mk 32 [] [(3, .d (.lit (.string a0))), (4, .b (decide (a0 = (ByteArray.mk #[108, 101, 102, 116]))))] []) Sub.tt ?_
             refine Chain.nil ?_
             replace h := isome h; rcases h with ⟨c13, h⟩ | ⟨c13, h⟩
             ·have c13_ : decide (a0 = (ByteArray.mk #[108, 101, 102, 116])) = true := c13
              refine AW.condT (b := decide (a0 = (ByteArray.mk #[108, 101, 102, 116]))) rfl c13_ ?_
              refine AW.sub (Sub.bool 4 (b := decide (a0 = (ByteArray.mk #[108, 101, 102, 116]))) rfl c13_) ?_
              refine AW.sub (S' := mk 32 [] [(3, .d (.lit (.string a0))), (4, .b true)] []) (by simp; exact Sub.table (by simp) (by simp)) ?_
              refine AW.skip ?_
              refine thenQ_normal ?_
              refine AW.condK fun K1 K2 k1 k2 => ?_; simp; refine k1 ?_; clear k1 k2 K1 K2
              refine AW.seqR ?_
              refine Chain.runK [] 1 fun K hK => ?_; simp; refine hK _ _ ?_; clear hK K
              refine Chain.sub (S' := mk 32 [] [(2, .b true)] []) Sub.tt ?_
              refine Chain.nil ?_
              refine AW.ret ?_
              cases h
              refine blockQ.ret ?_
              refine thenQ_pass (by simp) ?_
              exact FinC.ret (by simp) (by simp)
             ·have c13_ : decide (a0 = (ByteArray.mk #[108, 101, 102, 116])) = false := Bool.eq_false_iff.2 c13
              refine AW.condF (b := decide (a0 = (ByteArray.mk #[108, 101, 102, 116]))) rfl c13_ ?_
              refine AW.sub (Sub.bool 4 (b := decide (a0 = (ByteArray.mk #[108, 101, 102, 116]))) rfl c13_) ?_
              refine AW.sub (S' := mk 32 [] [(3, .d (.lit (.string a0))), (4, .b false)] []) (by simp; exact Sub.table (by simp) (by simp)) ?_
              refine AW.seqR ?_
              refine Chain.runK [] 2 fun K hK => ?_; simp; refine hK _ _ ?_; clear hK K
              refine Chain.sub (S' := mk 32 [] [(3, .d (.lit (.string a0))), (4, .b (decide (a0 = (ByteArray.mk #[108, 101, 110, 103, 116, 104]))))] []) Sub.tt ?_
              refine Chain.nil ?_
              replace h := isome h; rcases h with ⟨c14, h⟩ | ⟨c14, h⟩
              ·have c14_ : decide (a0 = (ByteArray.mk #[108, 101, 110, 103, 116, 104])) = true := c14
               refine AW.condT (b := decide (a0 = (ByteArray.mk #[108, 101, 110, 103, 116, 104]))) rfl c14_ ?_
               refine AW.sub (Sub.bool 4 (b := decide (a0 = (ByteArray.mk #[108, 101, 110, 103, 116, 104]))) rfl c14_) ?_
               refine AW.sub (S' := mk 32 [] [(3, .d (.lit (.string a0))), (4, .b true)] []) (by simp; exact Sub.table (by simp) (by simp)) ?_
               refine AW.skip ?_
               refine thenQ_normal ?_
               refine AW.condK fun K1 K2 k1 k2 => ?_; simp; refine k1 ?_; clear k1 k2 K1 K2
               refine AW.seqR ?_
               refine Chain.runK [] 1 fun K hK => ?_; simp; refine hK _ _ ?_; clear hK K
               refine Chain.sub (S' := mk 32 [] [(2, .b true)] []) Sub.tt ?_
               refine Chain.nil ?_
               refine AW.ret ?_
               cases h
               refine blockQ.ret ?_
               refine thenQ_pass (by simp) ?_
               exact FinC.ret (by simp) (by simp)
              ·have c14_ : decide (a0 = (ByteArray.mk #[108, 101, 110, 103, 116, 104])) = false := Bool.eq_false_iff.2 c14
               refine AW.condF (b := decide (a0 = (ByteArray.mk #[108, 101, 110, 103, 116, 104]))) rfl c14_ ?_
               refine AW.sub (Sub.bool 4 (b := decide (a0 = (ByteArray.mk #[108, 101, 110, 103, 116, 104]))) rfl c14_) ?_
               refine AW.sub (S' := mk 32 [] [(3, .d (.lit (.string a0))), (4, .b false)] []) (by simp; exact Sub.table (by simp) (by simp)) ?_
               refine AW.seqR ?_
               refine Chain.runK [] 2 fun K hK => ?_; simp; refine hK _ _ ?_; clear hK K
               refine Chain.sub (S' := mk 32 [] [(3, .d (.lit (.string a0))), (4, .b (decide (a0 = (ByteArray.mk #[108, 105, 109, 105, 116]))))] []) Sub.tt ?_
               refine Chain.nil ?_
               replace h := isome h; rcases h with ⟨c15, h⟩ | ⟨c15, h⟩
               ·have c15_ : decide (a0 = (ByteArray.mk #[108, 105, 109, 105, 116])) = true := c15
                refine AW.condT (b := decide (a0 = (ByteArray.mk #[108, 105, 109, 105, 116]))) rfl c15_ ?_
                refine AW.sub (Sub.bool 4 (b := decide (a0 = (ByteArray.mk #[108, 105, 109, 105, 116]))) rfl c15_) ?_
                refine AW.sub (S' := mk 32 [] [(3, .d (.lit (.string a0))), (4, .b true)] []) (by simp; exact Sub.table (by simp) (by simp)) ?_
                refine AW.skip ?_
                refine thenQ_normal ?_
                refine AW.condK fun K1 K2 k1 k2 => ?_; simp; refine k1 ?_; clear k1 k2 K1 K2
                refine AW.seqR ?_
                refine Chain.runK [] 1 fun K hK => ?_; simp; refine hK _ _ ?_; clear hK K
                refine Chain.sub (S' := mk 32 [] [(2, .b true)] []) Sub.tt ?_
                refine Chain.nil ?_
                refine AW.ret ?_
                cases h
                refine blockQ.ret ?_
                refine thenQ_pass (by simp) ?_
                exact FinC.ret (by simp) (by simp)
               ·have c15_ : decide (a0 = (ByteArray.mk #[108, 105, 109, 105, 116])) = false := Bool.eq_false_iff.2 c15
                refine AW.condF (b := decide (a0 = (ByteArray.mk #[108, 105, 109, 105, 116]))) rfl c15_ ?_
                refine AW.sub (Sub.bool 4 (b := decide (a0 = (ByteArray.mk #[108, 105, 109, 105, 116]))) rfl c15_) ?_
                refine AW.sub (S' := mk 32 [] [(3, .d (.lit (.string a0))), (4, .b false)] []) (by simp; exact Sub.table (by simp) (by simp)) ?_
                refine AW.seqR ?_
                refine Chain.runK [] 2 fun K hK => ?_; simp; refine hK _ _ ?_; clear hK K
                refine Chain.sub (S' := mk 32 [] [(3, .d (.lit (.string a0))), (4, .b (decide (a0 = (ByteArray.mk #[110, 111, 116]))))] []) Sub.tt ?_
                refine Chain.nil ?_
                replace h := isome h; rcases h with ⟨c16, h⟩ | ⟨c16, h⟩
                ·have c16_ : decide (a0 = (ByteArray.mk #[110, 111, 116])) = true := c16
                 refine AW.condT (b := decide (a0 = (ByteArray.mk #[110, 111, 116]))) rfl c16_ ?_
                 refine AW.sub (Sub.bool 4 (b := decide (a0 = (ByteArray.mk #[110, 111, 116]))) rfl c16_) ?_
                 refine AW.sub (S' := mk 32 [] [(3, .d (.lit (.string a0))), (4, .b true)] []) (by simp; exact Sub.table (by simp) (by simp)) ?_
                 refine AW.skip ?_
                 refine thenQ_normal ?_
                 refine AW.condK fun K1 K2 k1 k2 => ?_; simp; refine k1 ?_; clear k1 k2 K1 K2
                 refine AW.seqR ?_
                 refine Chain.runK [] 1 fun K hK => ?_; simp; refine hK _ _ ?_; clear hK K
                 refine Chain.sub (S' := mk 32 [] [(2, .b true)] []) Sub.tt ?_
                 refine Chain.nil ?_
                 refine AW.ret ?_
                 cases h
                 refine blockQ.ret ?_
                 refine thenQ_pass (by simp) ?_
                 exact FinC.ret (by simp) (by simp)
                ·have c16_ : decide (a0 = (ByteArray.mk #[110, 111, 116])) = false := Bool.eq_false_iff.2 c16
                 refine AW.condF (b := decide (a0 = (ByteArray.mk #[110, 111, 116]))) rfl c16_ ?_
                 refine AW.sub (Sub.bool 4 (b := decide (a0 = (ByteArray.mk #[110, 111, 116]))) rfl c16_) ?_
                 refine AW.sub (S' := mk 32 [] [(3, .d (.lit (.string a0))), (4, .b false)] []) (by simp; exact Sub.table (by simp) (by simp)) ?_
                 refine AW.seqR ?_
                 refine Chain.runK [] 2 fun K hK => ?_; simp; refine hK _ _ ?_; clear hK K
                 refine Chain.sub (S' := mk 32 [] [(3, .d (.lit (.string a0))), (4, .b (decide (a0 = (ByteArray.mk #[110, 117, 108, 108]))))] []) Sub.tt ?_
                 refine Chain.nil ?_
                 replace h := isome h; rcases h with ⟨c17, h⟩ | ⟨c17, h⟩
                 ·have c17_ : decide (a0 = (ByteArray.mk #[110, 117, 108, 108])) = true := c17
                  refine AW.condT (b := decide (a0 = (ByteArray.mk #[110, 117, 108, 108]))) rfl c17_ ?_
                  refine AW.sub (Sub.bool 4 (b := decide (a0 = (ByteArray.mk #[110, 117, 108, 108]))) rfl c17_) ?_
                  refine AW.sub (S' := mk 32 [] [(3, .d (.lit (.string a0))), (4, .b true)] []) (by simp; exact Sub.table (by simp) (by simp)) ?_
                  refine AW.skip ?_
                  refine thenQ_normal ?_
                  refine AW.condK fun K1 K2 k1 k2 => ?_; simp; refine k1 ?_; clear k1 k2 K1 K2
                  refine AW.seqR ?_
                  refine Chain.runK [] 1 fun K hK => ?_; simp; refine hK _ _ ?_; clear hK K
                  refine Chain.sub (S' := mk 32 [] [(2, .b true)] []) Sub.tt ?_
                  refine Chain.nil ?_
                  refine AW.ret ?_
                  cases h
                  refine blockQ.ret ?_
                  refine thenQ_pass (by simp) ?_
                  exact FinC.ret (by simp) (by simp)
                 ·have c17_ : decide (a0 = (ByteArray.mk #[110, 117, 108, 108])) = false := Bool.eq_false_iff.2 c17
                  refine AW.condF (b := decide (a0 = (ByteArray.mk #[110, 117, 108, 108]))) rfl c17_ ?_
                  refine AW.sub (Sub.bool 4 (b := decide (a0 = (ByteArray.mk #[110, 117, 108, 108]))) rfl c17_) ?_
                  refine AW.sub (S' := mk 32 [] [(3, .d (.lit (.string a0))), (4, .b false)] []) (by simp; exact Sub.table (by simp) (by simp)) ?_
                  refine AW.seqR ?_
                  refine Chain.runK [] 2 fun K hK => ?_; simp; refine hK _ _ ?_; clear hK K
                  refine Chain.sub (S' := mk 32 [] [(3, .d (.lit (.string a0))), (4, .b (decide (a0 = (ByteArray.mk #[111, 102, 102, 115, 101, 116]))))] []) Sub.tt ?_
                  refine Chain.nil ?_
                  replace h := isome h; rcases h with ⟨c18, h⟩ | ⟨c18, h⟩
                  ·have c18_ : decide (a0 = (ByteArray.mk #[111, 102, 102, 115, 101, 116])) = true := c18
                   refine AW.condT (b := decide (a0 = (ByteArray.mk #[111, 102, 102, 115, 101, 116]))) rfl c18_ ?_
                   refine AW.sub (Sub.bool 4 (b := decide (a0 = (ByteArray.mk #[111, 102, 102, 115, 101, 116]))) rfl c18_) ?_
                   refine AW.sub (S' := mk 32 [] [(3, .d (.lit (.string a0))), (4, .b true)] []) (by simp; exact Sub.table (by simp) (by simp)) ?_
                   refine AW.skip ?_
                   refine thenQ_normal ?_
                   refine AW.condK fun K1 K2 k1 k2 => ?_; simp; refine k1 ?_; clear k1 k2 K1 K2
                   refine AW.seqR ?_
                   refine Chain.runK [] 1 fun K hK => ?_; simp; refine hK _ _ ?_; clear hK K
                   refine Chain.sub (S' := mk 32 [] [(2, .b true)] []) Sub.tt ?_
                   refine Chain.nil ?_
                   refine AW.ret ?_
                   cases h
                   refine blockQ.ret ?_
                   refine thenQ_pass (by simp) ?_
                   exact FinC.ret (by simp) (by simp)
                  ·have c18_ : decide (a0 = (ByteArray.mk #[111, 102, 102, 115, 101, 116])) = false := Bool.eq_false_iff.2 c18
                   refine AW.condF (b := decide (a0 = (ByteArray.mk #[111, 102, 102, 115, 101, 116]))) rfl c18_ ?_
                   refine AW.sub (Sub.bool 4 (b := decide (a0 = (ByteArray.mk #[111, 102, 102, 115, 101, 116]))) rfl c18_) ?_
                   refine AW.sub (S' := mk 32 [] [(3, .d (.lit (.string a0))), (4, .b false)] []) (by simp; exact Sub.table (by simp) (by simp)) ?_
                   refine AW.seqR ?_
                   refine Chain.runK [] 2 fun K hK => ?_; simp; refine hK _ _ ?_; clear hK K
                   refine Chain.sub (S' := mk 32 [] [(3, .d (.lit (.string a0))), (4, .b (decide (a0 = (ByteArray.mk #[111, 110]))))] []) Sub.tt ?_
                   refine Chain.nil ?_
                   replace h := isome h; rcases h with ⟨c19, h⟩ | ⟨c19, h⟩
                   ·have c19_ : decide (a0 = (ByteArray.mk #[111, 110])) = true := c19
                    refine AW.condT (b := decide (a0 = (ByteArray.mk #[111, 110]))) rfl c19_ ?_
                    refine AW.sub (Sub.bool 4 (b := decide (a0 = (ByteArray.mk #[111, 110]))) rfl c19_) ?_
                    refine AW.sub (S' := mk 32 [] [(3, .d (.lit (.string a0))), (4, .b true)] []) (by simp; exact Sub.table (by simp) (by simp)) ?_
                    refine AW.skip ?_
                    refine thenQ_normal ?_
                    refine AW.condK fun K1 K2 k1 k2 => ?_; simp; refine k1 ?_; clear k1 k2 K1 K2
                    refine AW.seqR ?_
                    refine Chain.runK [] 1 fun K hK => ?_; simp; refine hK _ _ ?_; clear hK K
                    refine Chain.sub (S' := mk 32 [] [(2, .b true)] []) Sub.tt ?_
                    refine Chain.nil ?_
                    refine AW.ret ?_
                    cases h
                    refine blockQ.ret ?_
                    refine thenQ_pass (by simp) ?_
                    exact FinC.ret (by simp) (by simp)
                   ·have c19_ : decide (a0 = (ByteArray.mk #[111, 110])) = false := Bool.eq_false_iff.2 c19
                    refine AW.condF (b := decide (a0 = (ByteArray.mk #[111, 110]))) rfl c19_ ?_
                    refine AW.sub (Sub.bool 4 (b := decide (a0 = (ByteArray.mk #[111, 110]))) rfl c19_) ?_
                    refine AW.sub (S' := mk 32 [] [(3, .d (.lit (.string a0))), (4, .b false)] []) (by simp; exact Sub.table (by simp) (by simp)) ?_
                    refine AW.seqR ?_
                    refine Chain.runK [] 2 fun K hK => ?_; simp; refine hK _ _ ?_; clear hK K
                    refine Chain.sub (S' := mk 32 [] [(3, .d (.lit (.string a0))), (4, .b (decide (a0 = (ByteArray.mk #[111, 114]))))] []) Sub.tt ?_
                    refine Chain.nil ?_
                    replace h := isome h; rcases h with ⟨c20, h⟩ | ⟨c20, h⟩
                    ·have c20_ : decide (a0 = (ByteArray.mk #[111, 114])) = true := c20
                     refine AW.condT (b := decide (a0 = (ByteArray.mk #[111, 114]))) rfl c20_ ?_
                     refine AW.sub (Sub.bool 4 (b := decide (a0 = (ByteArray.mk #[111, 114]))) rfl c20_) ?_
                     refine AW.sub (S' := mk 32 [] [(3, .d (.lit (.string a0))), (4, .b true)] []) (by simp; exact Sub.table (by simp) (by simp)) ?_
                     refine AW.skip ?_
                     refine thenQ_normal ?_
                     refine AW.condK fun K1 K2 k1 k2 => ?_; simp; refine k1 ?_; clear k1 k2 K1 K2
                     refine AW.seqR ?_
                     refine Chain.runK [] 1 fun K hK => ?_; simp; refine hK _ _ ?_; clear hK K
                     refine Chain.sub (S' := mk 32 [] [(2, .b true)] []) Sub.tt ?_
                     refine Chain.nil ?_
                     refine AW.ret ?_
                     cases h
                     refine blockQ.ret ?_
                     refine thenQ_pass (by simp) ?_
                     exact FinC.ret (by simp) (by simp)
                    ·have c20_ : decide (a0 = (ByteArray.mk #[111, 114])) = false := Bool.eq_false_iff.2 c20
                     refine AW.condF (b := decide (a0 = (ByteArray.mk #[111, 114]))) rfl c20_ ?_
                     refine AW.sub (Sub.bool 4 (b := decide (a0 = (ByteArray.mk #[111, 114]))) rfl c20_) ?_
                     refine AW.sub (S' := mk 32 [] [(3, .d (.lit (.string a0))), (4, .b false)] []) (by simp; exact Sub.table (by simp) (by simp)) ?_
                     refine AW.seqR ?_
                     refine Chain.runK [] 2 fun K hK => ?_; simp; refine hK _ _ ?_; clear hK K
                     refine Chain.sub (S' := mk 32 [] [(3, .d (.lit (.string a0))), (4, .b (decide (a0 = (ByteArray.mk #[112, 114, 111, 106, 101, 99, 116]))))] []) Sub.tt ?_
                     refine Chain.nil ?_
                     replace h := isome h; rcases h with ⟨c21, h⟩ | ⟨c21, h⟩
                     ·have c21_ : decide (a0 = (ByteArray.mk #[112, 114, 111, 106, 101, 99, 116])) = true := c21
                      refine AW.condT (b := decide (a0 = (ByteArray.mk #[112, 114, 111, 106, 101, 99, 116]))) rfl c21_ ?_
                      refine AW.sub (Sub.bool 4 (b := decide (a0 = (ByteArray.mk #[112, 114, 111, 106, 101, 99, 116]))) rfl c21_) ?_
                      refine AW.sub (S' := mk 32 [] [(3, .d (.lit (.string a0))), (4, .b true)] []) (by simp; exact Sub.table (by simp) (by simp)) ?_
                      refine AW.skip ?_
                      refine thenQ_normal ?_
                      refine AW.condK fun K1 K2 k1 k2 => ?_; simp; refine k1 ?_; clear k1 k2 K1 K2
                      refine AW.seqR ?_
                      refine Chain.runK [] 1 fun K hK => ?_; simp; refine hK _ _ ?_; clear hK K
                      refine Chain.sub (S' := mk 32 [] [(2, .b true)] []) Sub.tt ?_
                      refine Chain.nil ?_
                      refine AW.ret ?_
                      cases h
                      refine blockQ.ret ?_
                      refine thenQ_pass (by simp) ?_
                      exact FinC.ret (by simp) (by simp)
                     ·have c21_ : decide (a0 = (ByteArray.mk #[112, 114, 111, 106, 101, 99, 116])) = false := Bool.eq_false_iff.2 c21
                      refine AW.condF (b := decide (a0 = (ByteArray.mk #[112, 114, 111, 106, 101, 99, 116]))) rfl c21_ ?_
                      refine AW.sub (Sub.bool 4 (b := decide (a0 = (ByteArray.mk #[112, 114, 111, 106, 101, 99, 116]))) rfl c21_) ?_
                      refine AW.sub (S' := mk 32 [] [(3, .d (.lit (.string a0))), (4, .b false)] []) (by simp; exact Sub.table (by simp) (by simp)) ?_
                      refine AW.seqR ?_
                      refine Chain.runK [] 2 fun K hK => ?_; simp; refine hK _ _ ?_; clear hK K
                      refine Chain.sub (S' := mk 32 [] [(3, .d (.lit (.string a0))), (4, .b (decide (a0 = (ByteArray.mk #[115, 99, 97, 110]))))] []) Sub.tt ?_
                      refine Chain.nil ?_
                      replace h := isome h; rcases h with ⟨c22, h⟩ | ⟨c22, h⟩
                      ·have c22_ : decide (a0 = (ByteArray.mk #[115, 99, 97, 110])) = true := c22
                       refine AW.condT (b := decide (a0 = (ByteArray.mk #[115, 99, 97, 110]))) rfl c22_ ?_
                       refine AW.sub (Sub.bool 4 (b := decide (a0 = (ByteArray.mk #[115, 99, 97, 110]))) rfl c22_) ?_
                       refine AW.sub (S' := mk 32 [] [(3, .d (.lit (.string a0))), (4, .b true)] []) (by simp; exact Sub.table (by simp) (by simp)) ?_
                       refine AW.skip ?_
                       refine thenQ_normal ?_
                       refine AW.condK fun K1 K2 k1 k2 => ?_; simp; refine k1 ?_; clear k1 k2 K1 K2
                       refine AW.seqR ?_
                       refine Chain.runK [] 1 fun K hK => ?_; simp; refine hK _ _ ?_; clear hK K
                       refine Chain.sub (S' := mk 32 [] [(2, .b true)] []) Sub.tt ?_
                       refine Chain.nil ?_
                       refine AW.ret ?_
                       cases h
                       refine blockQ.ret ?_
                       refine thenQ_pass (by simp) ?_
                       exact FinC.ret (by simp) (by simp)
                      ·have c22_ : decide (a0 = (ByteArray.mk #[115, 99, 97, 110])) = false := Bool.eq_false_iff.2 c22
                       refine AW.condF (b := decide (a0 = (ByteArray.mk #[115, 99, 97, 110]))) rfl c22_ ?_
                       refine AW.sub (Sub.bool 4 (b := decide (a0 = (ByteArray.mk #[115, 99, 97, 110]))) rfl c22_) ?_
                       refine AW.sub (S' := mk 32 [] [(3, .d (.lit (.string a0))), (4, .b false)] []) (by simp; exact Sub.table (by simp) (by simp)) ?_
                       refine AW.seqR ?_
                       refine Chain.runK [] 2 fun K hK => ?_; simp; refine hK _ _ ?_; clear hK K
                       refine Chain.sub (S' := mk 32 [] [(3, .d (.lit (.string a0))), (4, .b (decide (a0 = (ByteArray.mk #[115, 111, 114, 116]))))] []) Sub.tt ?_
                       refine Chain.nil ?_
                       replace h := isome h; rcases h with ⟨c23, h⟩ | ⟨c23, h⟩
                       ·have c23_ : decide (a0 = (ByteArray.mk #[115, 111, 114, 116])) = true := c23
                        refine AW.condT (b := decide (a0 = (ByteArray.mk #[115, 111, 114, 116]))) rfl c23_ ?_
                        refine AW.sub (Sub.bool 4 (b := decide (a0 = (ByteArray.mk #[115, 111, 114, 116]))) rfl c23_) ?_
                        refine AW.sub (S' := mk 32 [] [(3, .d (.lit (.string a0))), (4, .b true)] []) (by simp; exact Sub.table (by simp) (by simp)) ?_
                        refine AW.skip ?_
                        refine thenQ_normal ?_
                        refine AW.condK fun K1 K2 k1 k2 => ?_; simp; refine k1 ?_; clear k1 k2 K1 K2
                        refine AW.seqR ?_
                        refine Chain.runK [] 1 fun K hK => ?_; simp; refine hK _ _ ?_; clear hK K
                        refine Chain.sub (S' := mk 32 [] [(2, .b true)] []) Sub.tt ?_
                        refine Chain.nil ?_
                        refine AW.ret ?_
                        cases h
                        refine blockQ.ret ?_
                        refine thenQ_pass (by simp) ?_
                        exact FinC.ret (by simp) (by simp)
                       ·have c23_ : decide (a0 = (ByteArray.mk #[115, 111, 114, 116])) = false := Bool.eq_false_iff.2 c23
                        refine AW.condF (b := decide (a0 = (ByteArray.mk #[115, 111, 114, 116]))) rfl c23_ ?_
                        refine AW.sub (Sub.bool 4 (b := decide (a0 = (ByteArray.mk #[115, 111, 114, 116]))) rfl c23_) ?_
                        refine AW.sub (S' := mk 32 [] [(3, .d (.lit (.string a0))), (4, .b false)] []) (by simp; exact Sub.table (by simp) (by simp)) ?_
                        refine AW.seqR ?_
                        refine Chain.runK [] 2 fun K hK => ?_; simp; refine hK _ _ ?_; clear hK K
                        refine Chain.sub (S' := mk 32 [] [(3, .d (.lit (.string a0))), (4, .b (decide (a0 = (ByteArray.mk #[116, 104, 101, 110]))))] []) Sub.tt ?_
                        refine Chain.nil ?_
                        replace h := isome h; rcases h with ⟨c24, h⟩ | ⟨c24, h⟩
                        ·have c24_ : decide (a0 = (ByteArray.mk #[116, 104, 101, 110])) = true := c24
                         refine AW.condT (b := decide (a0 = (ByteArray.mk #[116, 104, 101, 110]))) rfl c24_ ?_
                         refine AW.sub (Sub.bool 4 (b := decide (a0 = (ByteArray.mk #[116, 104, 101, 110]))) rfl c24_) ?_
                         refine AW.sub (S' := mk 32 [] [(3, .d (.lit (.string a0))), (4, .b true)] []) (by simp; exact Sub.table (by simp) (by simp)) ?_
                         refine AW.skip ?_
                         refine thenQ_normal ?_
                         refine AW.condK fun K1 K2 k1 k2 => ?_; simp; refine k1 ?_; clear k1 k2 K1 K2
                         refine AW.seqR ?_
                         refine Chain.runK [] 1 fun K hK => ?_; simp; refine hK _ _ ?_; clear hK K
                         refine Chain.sub (S' := mk 32 [] [(2, .b true)] []) Sub.tt ?_
                         refine Chain.nil ?_
                         refine AW.ret ?_
                         cases h
                         refine blockQ.ret ?_
                         refine thenQ_pass (by simp) ?_
                         exact FinC.ret (by simp) (by simp)
                        ·have c24_ : decide (a0 = (ByteArray.mk #[116, 104, 101, 110])) = false := Bool.eq_false_iff.2 c24
                         refine AW.condF (b := decide (a0 = (ByteArray.mk #[116, 104, 101, 110]))) rfl c24_ ?_
                         refine AW.sub (Sub.bool 4 (b := decide (a0 = (ByteArray.mk #[116, 104, 101, 110]))) rfl c24_) ?_
                         refine AW.sub (S' := mk 32 [] [(3, .d (.lit (.string a0))), (4, .b false)] []) (by simp; exact Sub.table (by simp) (by simp)) ?_
                         refine AW.seqR ?_
                         refine Chain.runK [] 2 fun K hK => ?_; simp; refine hK _ _ ?_; clear hK K
                         refine Chain.sub (S' := mk 32 [] [(3, .d (.lit (.string a0))), (4, .b (decide (a0 = (ByteArray.mk #[116, 114, 117, 101]))))] []) Sub.tt ?_
                         refine Chain.nil ?_
                         replace h := isome h; rcases h with ⟨c25, h⟩ | ⟨c25, h⟩
                         ·have c25_ : decide (a0 = (ByteArray.mk #[116, 114, 117, 101])) = true := c25
                          refine AW.condT (b := decide (a0 = (ByteArray.mk #[116, 114, 117, 101]))) rfl c25_ ?_
                          refine AW.sub (Sub.bool 4 (b := decide (a0 = (ByteArray.mk #[116, 114, 117, 101]))) rfl c25_) ?_
                          refine AW.sub (S' := mk 32 [] [(3, .d (.lit (.string a0))), (4, .b true)] []) (by simp; exact Sub.table (by simp) (by simp)) ?_
                          refine AW.skip ?_
                          refine thenQ_normal ?_
                          refine AW.condK fun K1 K2 k1 k2 => ?_; simp; refine k1 ?_; clear k1 k2 K1 K2
                          refine AW.seqR ?_
                          refine Chain.runK [] 1 fun K hK => ?_; simp; refine hK _ _ ?_; clear hK K
                          refine Chain.sub (S' := mk 32 [] [(2, .b true)] []) Sub.tt ?_
                          refine Chain.nil ?_
                          refine AW.ret ?_
                          cases h
                          refine blockQ.ret ?_
                          refine thenQ_pass (by simp) ?_
                          exact FinC.ret (by simp) (by simp)
                         ·have c25_ : decide (a0 = (ByteArray.mk #[116, 114, 117, 101])) = false := Bool.eq_false_iff.2 c25
                          refine AW.condF (b := decide (a0 = (ByteArray.mk #[116, 114, 117, 101]))) rfl c25_ ?_
                          refine AW.sub (Sub.bool 4 (b := decide (a0 = (ByteArray.mk #[116, 114, 117, 101]))) rfl c25_) ?_
                          refine AW.sub (S' := mk 32 [] [(3, .d (.lit (.string a0))), (4, .b false)] []) (by simp; exact Sub.table (by simp) (by simp)) ?_
                          refine AW.seqR ?_
                          refine Chain.runK [] 2 fun K hK => ?_; simp; refine hK _ _ ?_; clear hK K
                          refine Chain.sub (S' := mk 32 [] [(3, .d (.lit (.string a0))), (4, .b (decide (a0 = (ByteArray.mk #[117, 110, 105, 111, 110]))))] []) Sub.tt ?_
                          refine Chain.nil ?_
                          replace h := isome h; rcases h with ⟨c26, h⟩ | ⟨c26, h⟩
                          ·have c26_ : decide (a0 = (ByteArray.mk #[117, 110, 105, 111, 110])) = true := c26
                           refine AW.condT (b := decide (a0 = (ByteArray.mk #[117, 110, 105, 111, 110]))) rfl c26_ ?_
                           refine AW.sub (Sub.bool 4 (b := decide (a0 = (ByteArray.mk #[117, 110, 105, 111, 110]))) rfl c26_) ?_
                           refine AW.sub (S' := mk 32 [] [(3, .d (.lit (.string a0))), (4, .b true)] []) (by simp; exact Sub.table (by simp) (by simp)) ?_
                           refine AW.skip ?_
                           refine thenQ_normal ?_
                           refine AW.condK fun K1 K2 k1 k2 => ?_; simp; refine k1 ?_; clear k1 k2 K1 K2
                           refine AW.seqR ?_
                           refine Chain.runK [] 1 fun K hK => ?_; simp; refine hK _ _ ?_; clear hK K
                           refine Chain.sub (S' := mk 32 [] [(2, .b true)] []) Sub.tt ?_
                           refine Chain.nil ?_
                           refine AW.ret ?_
                           cases h
                           refine blockQ.ret ?_
                           refine thenQ_pass (by simp) ?_
                           exact FinC.ret (by simp) (by simp)
                          ·have c26_ : decide (a0 = (ByteArray.mk #[117, 110, 105, 111, 110])) = false := Bool.eq_false_iff.2 c26
                           refine AW.condF (b := decide (a0 = (ByteArray.mk #[117, 110, 105, 111, 110]))) rfl c26_ ?_
                           refine AW.sub (Sub.bool 4 (b := decide (a0 = (ByteArray.mk #[117, 110, 105, 111, 110]))) rfl c26_) ?_
                           refine AW.sub (S' := mk 32 [] [(3, .d (.lit (.string a0))), (4, .b false)] []) (by simp; exact Sub.table (by simp) (by simp)) ?_
                           refine AW.region ?_
                           refine Chain.runK [] 2 fun K hK => ?_; simp; refine hK _ _ ?_; clear hK K
                           refine Chain.sub (S' := mk 32 [] [(4, .b (decide (a0 = (ByteArray.mk #[119, 104, 101, 114, 101]))))] []) Sub.tt ?_
                           refine Chain.nil ?_
                           refine thenQ_normal ?_
                           replace h := isome h; rcases h with ⟨c27, h⟩ | ⟨c27, h⟩
                           ·have c27_ : decide (a0 = (ByteArray.mk #[119, 104, 101, 114, 101])) = true := c27
                            refine AW.condT (b := decide (a0 = (ByteArray.mk #[119, 104, 101, 114, 101]))) rfl c27_ ?_
                            refine AW.sub (Sub.bool 4 (b := decide (a0 = (ByteArray.mk #[119, 104, 101, 114, 101]))) rfl c27_) ?_
                            refine AW.sub (S' := mk 32 [] [(4, .b true)] []) (by simp; exact Sub.table (by simp) (by simp)) ?_
                            refine AW.seqR ?_
                            refine Chain.runK [] 1 fun K hK => ?_; simp; refine hK _ _ ?_; clear hK K
                            refine Chain.sub (S' := mk 32 [] [(2, .b true)] []) Sub.tt ?_
                            refine Chain.nil ?_
                            refine AW.ret ?_
                            cases h
                            refine blockQ.ret ?_
                            refine thenQ_pass (by simp) ?_
                            exact FinC.ret (by simp) (by simp)
                           ·have c27_ : decide (a0 = (ByteArray.mk #[119, 104, 101, 114, 101])) = false := Bool.eq_false_iff.2 c27
                            refine AW.condF (b := decide (a0 = (ByteArray.mk #[119, 104, 101, 114, 101]))) rfl c27_ ?_
                            refine AW.sub (Sub.bool 4 (b := decide (a0 = (ByteArray.mk #[119, 104, 101, 114, 101]))) rfl c27_) ?_
                            refine AW.sub (S' := mk 32 [] [(4, .b false)] []) (by simp; exact Sub.table (by simp) (by simp)) ?_
                            refine AW.skip ?_
                            refine blockQ.normal ?_
                            refine thenQ_normal ?_
                            refine AW.seqR ?_
                            refine Chain.runK [] 1 fun K hK => ?_; simp; refine hK _ _ ?_; clear hK K
                            refine Chain.sub (S' := mk 32 [] [(2, .b false)] []) Sub.tt ?_
                            refine Chain.nil ?_
                            refine AW.ret ?_
                            cases h
                            exact FinC.ret (by simp) (by simp)

end Go.Proofs.YtdiekinmoklonabDoor
