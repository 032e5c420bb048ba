/- Functions of the program as functional programs; the code computes them. -/
import Derived.Test.YtdiekinmoklonabDoorLx2
namespace Go.Proofs.YtdiekinmoklonabDoor
open Go.Ab Go.Rp
attribute [-simp] List.all_eq_true Array.all_toList Array.all_eq_true

/-- stemma/lexer.Tokenize -/
def d5 (N : Nat) (a0 : ByteArray) : Option ((List S29) × Int × Int) :=
 if (a0.size : Int) > 4000 then (
  some (([] : List S29), 0, 2)
 ) else
 bindO (β := List S29) (ρ := ((List S29) × Int × Int)) (
  iterN (σ := ((List S29) × Int)) (ρ := (Out (List S29) ((List S29) × Int × Int))) (fun ((l17, v18) : ((List S29) × Int)) =>
   if v18 < (a0.size : Int) then (
    Option.bind (α := Bool) (
     (idxB a0 v18).bind fun v59 =>
     if (v59 == 32) then (
      some true
     ) else
     (idxB a0 v18).bind fun v61 =>
     some (v61 == 10)
    ) fun (v58 : Bool) =>
    if v58 = true then (
     (chkI (v18 + 1)).bind fun v63 =>
     some (.inl (l17, v63))
    ) else
    (natI v18 a0.size).bind fun n64 =>
    letv (a0.extract n64 a0.size) fun v65 =>
    (d11 N v65).bind fun r66 =>
    if (!r66.2.2) = true then (
     some (.inr (.ret (([] : List S29), (n64 : Int), 22)))
    ) else
    (appL 40 l17 [(S29.mk r66.1.Kind r66.1.Text r66.1.Number (n64 : Int))]).bind fun _l68 =>
    (chkI ((n64 : Int) + r66.2.1)).bind fun v69 =>
    some (.inl ((l17 ++ [(S29.mk r66.1.Kind r66.1.Text r66.1.Number (n64 : Int))]), v69))
   ) else
   some (.inr (.go l17))
  ) N (([] : List S29), 0)
 ) fun (l53 : List S29) =>
 some (l53, 0, 0)
set_option maxRecDepth 100000 in
set_option maxHeartbeats 4000000 in
theorem p5 (N : Nat) (a0 : ByteArray) (r : ((List S29) × Int × Int)) (h : d5 N a0 = some r) : FunC Tryd.prog 5 [.d (.lit (.string a0))] (.tup [.d (.sl (r.1.map cS29)), .i r.2.1, .i r.2.2]) := by
 unfold d5 at h
 refine FunC.enter 50 [(0, .d (.lit (.string a0)))] (by simp) Tryd.func5 rfl (of_decide_eq_true rfl) rfl rfl ?_
 refine AW.seqR ?_
 refine Chain.runK [] 3 fun K hK => ?_; simp; refine hK _ _ ?_; clear hK K
 refine Chain.sub (S' := mk 50 [] [(0, .d (.lit (.string a0)))] []) Sub.tt ?_
 refine Chain.nil ?_
 refine AW.seq ?_
 refine AW.seqR ?_
 refine Chain.runK [] 3 fun K hK => ?_; simp; refine hK _ _ ?_; clear hK K
 refine Chain.sub (S' := mk 50 [] [(0, .d (.lit (.string a0))), (12, .b (decide ((a0.size : Int) > 4000)))] []) Sub.tt ?_
 refine Chain.nil ?_
 replace h := isome h; rcases h with ⟨c1, h⟩ | ⟨c1, h⟩
 ·have c1_ : decide ((a0.size : Int) > 4000) = true := decide_eq_true c1
  refine AW.condT (b := decide ((a0.size : Int) > 4000)) rfl c1_ ?_
  refine AW.sub (Sub.bool 12 (b := decide ((a0.size : Int) > 4000)) rfl c1_) ?_
  refine AW.sub (S' := mk 50 [] [(0, .d (.lit (.string a0))), (12, .b true)] []) (by simp; exact Sub.table (by simp) (by simp)) ?_
  refine AW.seqR ?_
  refine Chain.runK [] 3 fun K hK => ?_; simp; refine hK _ _ ?_; clear hK K
  refine Chain.sub (S' := mk 50 [] [(2, .d (.lit (.slice none 0 0))), (3, .i 0), (4, .i 2)] []) Sub.tt ?_
  refine Chain.nil ?_
  refine AW.sub (Sub.wk 2 rfl) ?_
  refine AW.sub (S' := mk 50 [] [(2, .d (.sl (([] : List S29).map cS29))), (3, .i 0), (4, .i 2)] []) (by simp; exact Sub.table (by simp) (by simp)) ?_
  refine AW.ret ?_
  cases h
  refine thenQ_pass (by simp) ?_
  exact FinC.ret (by simp) (by simp)
 ·have c1_ : decide ((a0.size : Int) > 4000) = false := decide_eq_false c1
  refine AW.condF (b := decide ((a0.size : Int) > 4000)) rfl c1_ ?_
  refine AW.sub (Sub.bool 12 (b := decide ((a0.size : Int) > 4000)) rfl c1_) ?_
  refine AW.sub (S' := mk 50 [] [(0, .d (.lit (.string a0))), (12, .b false)] []) (by simp; exact Sub.table (by simp) (by simp)) ?_
  refine AW.skip ?_
  refine thenQ_normal ?_
  refine AW.seqR ?_
  refine Chain.runK [] 1 fun K hK => ?_; simp; refine hK _ _ ?_; clear hK K
  refine Chain.sub (S' := mk 50 [] [(0, .d (.lit (.string a0))), (5, .d (.lit (.slice none 0 0)))] []) Sub.tt ?_
  refine Chain.nil ?_
  refine AW.seq ?_
  refine AW.seqR ?_
  refine Chain.runK [] 1 fun K hK => ?_; simp; refine hK _ _ ?_; clear hK K
  refine Chain.sub (S' := mk 50 [] [(0, .d (.lit (.string a0))), (5, .d (.lit (.slice none 0 0))), (6, .i 0)] []) Sub.tt ?_
  refine Chain.nil ?_
  refine AW.lastJ (fun (l53 : List S29) => mk 50 [] [(5, .ref 45 0 l53.length)] [(45, R29 l53)]) h ?_ ?_ <;> clear h
  ·intro o h
   refine AW.block ?_
   refine AW.iter (fun ((l17, v18) : ((List S29) × Int)) => mk 50 [] [(0, .d (.lit (.string a0))), (5, .ref 45 0 l17.length), (6, .i v18)] [(45, R29 l17)]) h (Sub.trans (Sub.nilOwn (t := 5) (id := 45) (T := 29) (n := 4) rfl rfl (by decide)) (by simp; exact Sub.table (by simp) (by simp))) ?_
   clear h
   rintro ⟨l17, v18⟩ x h
   dsimp only at h ⊢
   refine AW.seq ?_
   refine AW.seqR ?_
   refine Chain.runK [] 4 fun K hK => ?_; simp; refine hK _ _ ?_; clear hK K
   refine Chain.sub (S' := mk 50 [] [(0, .d (.lit (.string a0))), (5, .ref 45 0 l17.length), (6, .i v18), (16, .b (decide (v18 < (a0.size : Int))))] [(45, R29 l17)]) Sub.tt ?_
   refine Chain.nil ?_
   replace h := isome h; rcases h with ⟨c54, h⟩ | ⟨c54, h⟩
   ·have c54_ : decide (v18 < (a0.size : Int)) = true := decide_eq_true c54
    refine AW.condT (b := decide (v18 < (a0.size : Int))) rfl c54_ ?_
    refine AW.sub (Sub.bool 16 (b := decide (v18 < (a0.size : Int))) rfl c54_) ?_
    refine AW.sub (S' := mk 50 [] [(0, .d (.lit (.string a0))), (5, .ref 45 0 l17.length), (6, .i v18), (16, .b true)] [(45, R29 l17)]) (by simp; exact Sub.table (by simp) (by simp)) ?_
    refine AW.skip ?_
    refine thenQ_normal ?_
    refine AW.block ?_
    refine AW.seq ?_
    replace h := bsome h; obtain ⟨v58, hj, h⟩ := h
    refine AW.cutR (mk 50 [] [(0, .d (.lit (.string a0))), (5, .ref 45 0 l17.length), (6, .i v18), (26, .b v58)] [(45, R29 l17)]) ?_ ?_
    ·clear h; have h := hj; clear hj
     replace h := bsome h; obtain ⟨v59, gv59, h⟩ := h
     obtain ⟨bv59, kv59, hv59k, hv59a, hv59b, hv59c⟩ := idxB_some gv59
     refine Chain.runK [] 5 fun K hK => ?_; simp [hv59k, hv59a, hv59b, hv59c]; refine hK _ _ ?_; clear hK K
     refine Chain.sub (S' := mk 50 [] [(0, .d (.lit (.string a0))), (5, .ref 45 0 l17.length), (6, .i v18), (21, .b (v59 == 32))] [(45, R29 l17)]) Sub.tt ?_
     replace h := isome h; rcases h with ⟨c60, h⟩ | ⟨c60, h⟩
     ·have c60_ : (v59 == 32) = true := c60
      refine Chain.sub (Sub.bool 21 (b := (v59 == 32)) rfl c60_) ?_
      refine Chain.sub (S' := mk 50 [] [(0, .d (.lit (.string a0))), (5, .ref 45 0 l17.length), (6, .i v18), (21, .b true)] [(45, R29 l17)]) (by simp; exact Sub.table (by simp) (by simp)) ?_
      refine Chain.runK [] 5 fun K hK => ?_; simp; refine hK _ _ ?_; clear hK K
      refine Chain.sub (S' := mk 50 [] [(0, .d (.lit (.string a0))), (5, .ref 45 0 l17.length), (6, .i v18), (22, .tup []), (23, .tup []), (24, .tup []), (25, .tup []), (26, .b true)] [(45, R29 l17)]) Sub.tt ?_
      cases h
      exact Chain.nil Sub.tt
     ·have c60_ : (v59 == 32) = false := Bool.eq_false_iff.2 c60
      refine Chain.sub (Sub.bool 21 (b := (v59 == 32)) rfl c60_) ?_
      refine Chain.sub (S' := mk 50 [] [(0, .d (.lit (.string a0))), (5, .ref 45 0 l17.length), (6, .i v18), (21, .b false)] [(45, R29 l17)]) (by simp; exact Sub.table (by simp) (by simp)) ?_
      replace h := bsome h; obtain ⟨v61, gv61, h⟩ := h
      obtain ⟨bv61, kv61, hv61k, hv61a, hv61b, hv61c⟩ := idxB_some gv61
      refine Chain.runK [] 5 fun K hK => ?_; simp [hv61k, hv61a, hv61b, hv61c]; refine hK _ _ ?_; clear hK K
      refine Chain.sub (S' := mk 50 [] [(0, .d (.lit (.string a0))), (5, .ref 45 0 l17.length), (6, .i v18), (22, .d (.lit (.string a0))), (23, .i v18), (24, .d (.lit (.int .u8 v61))), (25, .b (v61 == 10)), (26, .b (v61 == 10))] [(45, R29 l17)]) Sub.tt ?_
      cases h
      exact Chain.nil Sub.tt
    ·clear hj
     replace h := isome h; rcases h with ⟨c62, h⟩ | ⟨c62, h⟩
     ·have c62_ : v58 = true := c62
      refine AW.condT (b := v58) rfl c62_ ?_
      refine AW.sub (Sub.bool 26 (b := v58) rfl c62_) ?_
      refine AW.sub (S' := mk 50 [] [(0, .d (.lit (.string a0))), (5, .ref 45 0 l17.length), (6, .i v18), (26, .b true)] [(45, R29 l17)]) (by simp; exact Sub.table (by simp) (by simp)) ?_
      refine AW.seqR ?_
      replace h := bsome h; obtain ⟨v63, hv63, h⟩ := h
      have hv63 := chkI_some hv63
      refine Chain.runK [] 3 fun K hK => ?_; simp [hv63]; refine hK _ _ ?_; clear hK K
      refine Chain.sub (S' := mk 50 [] [(0, .d (.lit (.string a0))), (5, .ref 45 0 l17.length), (6, .i v63)] [(45, R29 l17)]) Sub.tt ?_
      refine Chain.nil ?_
      refine AW.exit ?_
      cases h
      refine thenQ_pass (by simp) ?_
      refine blockQ.hit ?_
      refine PostI.next ?_
      exact Sub.tt
     ·have c62_ : v58 = false := Bool.eq_false_iff.2 c62
      refine AW.condF (b := v58) rfl c62_ ?_
      refine AW.sub (Sub.bool 26 (b := v58) rfl c62_) ?_
      refine AW.sub (S' := mk 50 [] [(0, .d (.lit (.string a0))), (5, .ref 45 0 l17.length), (6, .i v18), (26, .b false)] [(45, R29 l17)]) (by simp; exact Sub.table (by simp) (by simp)) ?_
      refine AW.skip ?_
      refine thenQ_normal ?_
      refine AW.seqR ?_
      replace h := bsome h; obtain ⟨n64, gn64, h⟩ := h
      obtain ⟨hn64a, hn64⟩ := natI_some gn64
      clear gn64
      subst hn64a
      replace h := lsome h; obtain ⟨v65, hv65, h⟩ := h
      refine Chain.runK [] 3 fun K hK => ?_; simp [hn64, hv65]; refine hK _ _ ?_; clear hK K
      refine Chain.sub (S' := mk 50 [] [(0, .d (.lit (.string a0))), (5, .ref 45 0 l17.length), (6, .i (n64 : Int)), (32, .d (.lit (.string v65)))] [(45, R29 l17)]) Sub.tt ?_
      replace h := bsome h; obtain ⟨r66, hr66, h⟩ := h
      refine Chain.callC (d := 33) (p11 N v65 r66 hr66) (by simp) rfl rfl (by simp <;> rfl) (by simp <;> rfl) ent11 (by simp) (.inl ⟨by simp, by simp⟩) ?_
      refine Chain.sub (S' := mk 50 [] [(0, .d (.lit (.string a0))), (5, .ref 45 0 l17.length), (6, .i (n64 : Int)), (32, .d (.lit (.string v65))), (33, .tup [.agg [.i r66.1.Kind, .d (.lit (.string r66.1.Text)), .i r66.1.Number, .i r66.1.Offset], .i r66.2.1, .b r66.2.2])] [(45, R29 l17)]) (by simp; exact Sub.table (by simp) (by simp)) ?_
      refine Chain.runK [] 8 fun K hK => ?_; simp; refine hK _ _ ?_; clear hK K
      refine Chain.sub (S' := mk 50 [] [(0, .d (.lit (.string a0))), (5, .ref 45 0 l17.length), (6, .i (n64 : Int)), (7, .ptr 7 0 0), (8, .i r66.2.1), (9, .b r66.2.2)] [(7, some (.box [.i r66.1.Kind, .d (.lit (.string r66.1.Text)), .i r66.1.Number, .i r66.1.Offset])), (45, R29 l17)]) Sub.tt ?_
      refine Chain.nil ?_
      refine AW.seq ?_
      refine AW.seqR ?_
      refine Chain.runK [] 2 fun K hK => ?_; simp; refine hK _ _ ?_; clear hK K
      refine Chain.sub (S' := mk 50 [] [(0, .d (.lit (.string a0))), (5, .ref 45 0 l17.length), (6, .i (n64 : Int)), (7, .ptr 7 0 0), (8, .i r66.2.1), (38, .b (!r66.2.2))] [(7, some (.box [.i r66.1.Kind, .d (.lit (.string r66.1.Text)), .i r66.1.Number, .i r66.1.Offset])), (45, R29 l17)]) Sub.tt ?_
      refine Chain.nil ?_
      replace h := isome h; rcases h with ⟨c67, h⟩ | ⟨c67, h⟩
      ·have c67_ : (!r66.2.2) = true := c67
       refine AW.condT (b := (!r66.2.2)) rfl c67_ ?_
       refine AW.sub (Sub.bool 38 (b := (!r66.2.2)) rfl c67_) ?_
       refine AW.sub (S' := mk 50 [] [(0, .d (.lit (.string a0))), (5, .ref 45 0 l17.length), (6, .i (n64 : Int)), (7, .ptr 7 0 0), (8, .i r66.2.1), (38, .b true)] [(7, some (.box [.i r66.1.Kind, .d (.lit (.string r66.1.Text)), .i r66.1.Number, .i r66.1.Offset])), (45, R29 l17)]) (by simp; exact Sub.table (by simp) (by simp)) ?_
       refine AW.seqR ?_
       refine Chain.runK [] 4 fun K hK => ?_; simp; refine hK _ _ ?_; clear hK K
       refine Chain.sub (S' := mk 50 [] [(2, .d (.lit (.slice none 0 0))), (3, .i (n64 : Int)), (4, .i 22)] []) Sub.tt ?_
       refine Chain.nil ?_
       refine AW.sub (Sub.wk 2 rfl) ?_
       refine AW.sub (S' := mk 50 [] [(2, .d (.sl (([] : List S29).map cS29))), (3, .i (n64 : Int)), (4, .i 22)] []) (by simp; exact Sub.table (by simp) (by simp)) ?_
       refine AW.ret ?_
       cases h
       refine thenQ_pass (by simp) ?_
       refine blockQ.ret ?_
       refine PostI.out (by simp) ?_
       rintro rfl
       refine blockQ.ret ?_
       refine PostJ.out (by simp) ?_
       rintro rfl
       refine thenQ_pass (by simp) ?_
       exact FinC.ret (by simp) (by simp)
      ·have c67_ : (!r66.2.2) = false := Bool.eq_false_iff.2 c67
       refine AW.condF (b := (!r66.2.2)) rfl c67_ ?_
       refine AW.sub (Sub.bool 38 (b := (!r66.2.2)) rfl c67_) ?_
       refine AW.sub (S' := mk 50 [] [(0, .d (.lit (.string a0))), (5, .ref 45 0 l17.length), (6, .i (n64 : Int)), (7, .ptr 7 0 0), (8, .i r66.2.1), (38, .b false)] [(7, some (.box [.i r66.1.Kind, .d (.lit (.string r66.1.Text)), .i r66.1.Number, .i r66.1.Offset])), (45, R29 l17)]) (by simp; exact Sub.table (by simp) (by simp)) ?_
       refine AW.skip ?_
       refine thenQ_normal ?_
       refine AW.seqR ?_
       refine Chain.runK [] 3 fun K hK => ?_; simp; refine hK _ _ ?_; clear hK K
       refine Chain.sub (S' := mk 50 [] [(0, .d (.lit (.string a0))), (5, .ref 45 0 l17.length), (6, .i (n64 : Int)), (7, .ptr 7 0 0), (8, .i r66.2.1)] [(7, some (.box [.i r66.1.Kind, .d (.lit (.string r66.1.Text)), .i r66.1.Number, .i (n64 : Int)])), (45, R29 l17)]) Sub.tt ?_
       refine Chain.nil ?_
       refine AW.seqR ?_
       replace h := bsome h; obtain ⟨l68, hl68, h⟩ := h
       obtain ⟨hl68a, hl68⟩ := appL_some hl68
       subst hl68
       try simp only [List.length_cons, List.length_nil, Nat.zero_add] at hl68a
       refine Chain.runK [44] 5 fun K hK => ?_; simp [hl68a]; refine hK _ _ ?_; clear hK K
       refine Chain.sub (S' := mk 50 [] [(0, .d (.lit (.string a0))), (5, .ref 45 0 ((l17 ++ [(S29.mk r66.1.Kind r66.1.Text r66.1.Number (n64 : Int))]).length)), (6, .i (n64 : Int)), (8, .i r66.2.1)] [(45, R29 (l17 ++ [(S29.mk r66.1.Kind r66.1.Text r66.1.Number (n64 : Int))]))]) Sub.tt ?_
       refine Chain.nil ?_
       refine AW.region ?_
       replace h := bsome h; obtain ⟨v69, hv69, h⟩ := h
       have hv69 := chkI_some hv69
       refine Chain.runK [] 4 fun K hK => ?_; simp [hv69]; refine hK _ _ ?_; clear hK K
       refine Chain.sub (S' := mk 50 [] [(0, .d (.lit (.string a0))), (5, .ref 45 0 ((l17 ++ [(S29.mk r66.1.Kind r66.1.Text r66.1.Number (n64 : Int))]).length)), (6, .i v69)] [(45, R29 (l17 ++ [(S29.mk r66.1.Kind r66.1.Text r66.1.Number (n64 : Int))]))]) Sub.tt ?_
       refine Chain.nil ?_
       cases h
       refine blockQ.normal ?_
       refine PostI.next ?_
       exact Sub.tt
   ·have c54_ : decide (v18 < (a0.size : Int)) = false := decide_eq_false c54
    refine AW.condF (b := decide (v18 < (a0.size : Int))) rfl c54_ ?_
    refine AW.sub (Sub.bool 16 (b := decide (v18 < (a0.size : Int))) rfl c54_) ?_
    refine AW.sub (S' := mk 50 [] [(0, .d (.lit (.string a0))), (5, .ref 45 0 l17.length), (6, .i v18), (16, .b false)] [(45, R29 l17)]) (by simp; exact Sub.table (by simp) (by simp)) ?_
    refine AW.exit ?_
    cases h
    refine thenQ_pass (by simp) ?_
    refine PostI.out (by simp) ?_
    rintro rfl
    refine blockQ.hit ?_
    refine PostJ.next ?_
    exact Sub.tt
  ·rintro l53 h
   refine thenQ_normal ?_
   refine AW.seqR ?_
   refine Chain.runK [] 4 fun K hK => ?_; simp; refine hK _ _ ?_; clear hK K
   refine Chain.sub (S' := mk 50 [] [(2, .ref 45 0 l53.length), (3, .i 0), (4, .i 0)] [(45, R29 l53)]) Sub.tt ?_
   refine Chain.nil ?_
   refine AW.sub (Sub.freeze 45 rfl) ?_
   refine AW.sub (S' := mk 50 [] [(2, .d (.sl (l53.map cS29))), (3, .i 0), (4, .i 0)] []) (by simp; exact Sub.table (by simp) (by simp)) ?_
   refine AW.ret ?_
   cases h
   exact FinC.ret (by simp) (by simp)

/-- stemma/stemlaw3.tokens -/
def d4 (N : Nat)  : Option Bool :=
 (d5 N (ByteArray.mk #[97, 32, 60, 32, 51])).bind fun r1 =>
 Option.bind (α := Bool) (
  if (r1.2.2 == 0) then (
   some ((r1.1.length : Int) == 3)
  ) else
  some false
 ) fun (v3 : Bool) =>
 some v3
set_option maxRecDepth 100000 in
set_option maxHeartbeats 4000000 in
theorem p4 (N : Nat)  (r : Bool) (h : d4 N  = some r) : FunC Tryd.prog 4 [] (.b r) := by
 unfold d4 at h
 refine FunC.enter 16 [] (by simp) Tryd.func4 rfl (of_decide_eq_true rfl) rfl rfl ?_
 refine AW.seqR ?_
 refine Chain.runK [] 1 fun K hK => ?_; simp; refine hK _ _ ?_; clear hK K
 refine Chain.sub (S' := mk 16 [] [] []) Sub.tt ?_
 refine Chain.nil ?_
 refine AW.seqR ?_
 replace h := bsome h; obtain ⟨r1, hr1, h⟩ := h
 refine Chain.callC (d := 5) (p5 N (ByteArray.mk #[97, 32, 60, 32, 51]) r1 hr1) (by simp) rfl rfl (by simp <;> rfl) (by simp <;> rfl) ent5 (by simp) (.inl ⟨by simp, by simp⟩) ?_
 refine Chain.sub (S' := mk 16 [] [(5, .tup [.d (.sl (r1.1.map cS29)), .i r1.2.1, .i r1.2.2])] []) (by simp; exact Sub.table (by simp) (by simp)) ?_
 refine Chain.runK [] 7 fun K hK => ?_; simp; refine hK _ _ ?_; clear hK K
 refine Chain.sub (S' := mk 16 [] [(1, .d (.sl (r1.1.map cS29))), (3, .i r1.2.2)] []) Sub.tt ?_
 refine Chain.nil ?_
 replace h := bsome h; obtain ⟨v3, hj, h⟩ := h
 refine AW.cutR (mk 16 [] [(0, .b v3)] []) ?_ ?_
 ·clear h; have h := hj; clear hj
  refine Chain.runK [] 3 fun K hK => ?_; simp; refine hK _ _ ?_; clear hK K
  refine Chain.sub (S' := mk 16 [] [(1, .d (.sl (r1.1.map cS29))), (11, .b (r1.2.2 == 0))] []) Sub.tt ?_
  replace h := isome h; rcases h with ⟨c4, h⟩ | ⟨c4, h⟩
  ·have c4_ : (r1.2.2 == 0) = true := c4
   refine Chain.sub (Sub.bool 11 (b := (r1.2.2 == 0)) rfl c4_) ?_
   refine Chain.sub (S' := mk 16 [] [(1, .d (.sl (r1.1.map cS29))), (11, .b true)] []) (by simp; exact Sub.table (by simp) (by simp)) ?_
   refine Chain.runK [] 5 fun K hK => ?_; simp; refine hK _ _ ?_; clear hK K
   refine Chain.sub (S' := mk 16 [] [(0, .b ((r1.1.length : Int) == 3))] []) Sub.tt ?_
   cases h
   exact Chain.nil Sub.tt
  ·have c4_ : (r1.2.2 == 0) = false := Bool.eq_false_iff.2 c4
   refine Chain.sub (Sub.bool 11 (b := (r1.2.2 == 0)) rfl c4_) ?_
   refine Chain.sub (S' := mk 16 [] [(1, .d (.sl (r1.1.map cS29))), (11, .b false)] []) (by simp; exact Sub.table (by simp) (by simp)) ?_
   refine Chain.runK [] 5 fun K hK => ?_; simp; refine hK _ _ ?_; clear hK K
   refine Chain.sub (S' := mk 16 [] [(0, .b false)] []) Sub.tt ?_
   cases h
   exact Chain.nil Sub.tt
 ·clear hj
  refine AW.ret ?_
  cases h
  exact FinC.ret (by simp) (by simp)

/-- stemma/stemref3.isLower -/
def d22 (_N : Nat) (a0 : Int) : Option Bool :=
 Option.bind (α := Bool) (
  if 97 ≤ a0 then (
   some (decide (a0 ≤ 122))
  ) else
  some false
 ) fun (v2 : Bool) =>
 some v2
set_option maxRecDepth 100000 in
set_option maxHeartbeats 4000000 in
theorem p22 (N : Nat) (a0 : Int) (r : Bool) (h : d22 N a0 = some r) : FunC Tryd.prog 22 [.d (.lit (.int .u8 a0))] (.b r) := by
 unfold d22 at h
 refine FunC.enter 9 [(0, .d (.lit (.int .u8 a0)))] (by simp) Tryd.func22 rfl (of_decide_eq_true rfl) rfl rfl ?_
 refine AW.seqR ?_
 refine Chain.runK [] 1 fun K hK => ?_; simp; refine hK _ _ ?_; clear hK K
 refine Chain.sub (S' := mk 9 [] [(0, .d (.lit (.int .u8 a0)))] []) Sub.tt ?_
 refine Chain.nil ?_
 replace h := bsome h; obtain ⟨v2, hj, h⟩ := h
 refine AW.cutR (mk 9 [] [(2, .b v2)] []) ?_ ?_
 ·clear h; have h := hj; clear hj
  refine Chain.runK [] 3 fun K hK => ?_; simp; refine hK _ _ ?_; clear hK K
  refine Chain.sub (S' := mk 9 [] [(0, .d (.lit (.int .u8 a0))), (5, .b (decide (97 ≤ a0)))] []) Sub.tt ?_
  replace h := isome h; rcases h with ⟨c3, h⟩ | ⟨c3, h⟩
  ·have c3_ : decide (97 ≤ a0) = true := decide_eq_true c3
   refine Chain.sub (Sub.bool 5 (b := decide (97 ≤ a0)) rfl c3_) ?_
   refine Chain.sub (S' := mk 9 [] [(0, .d (.lit (.int .u8 a0))), (5, .b true)] []) (by simp; exact Sub.table (by simp) (by simp)) ?_
   refine Chain.runK [] 4 fun K hK => ?_; simp; refine hK _ _ ?_; clear hK K
   refine Chain.sub (S' := mk 9 [] [(2, .b (decide (a0 ≤ 122)))] []) Sub.tt ?_
   cases h
   exact Chain.nil Sub.tt
  ·have c3_ : decide (97 ≤ a0) = false := decide_eq_false c3
   refine Chain.sub (Sub.bool 5 (b := decide (97 ≤ a0)) rfl c3_) ?_
   refine Chain.sub (S' := mk 9 [] [(0, .d (.lit (.int .u8 a0))), (5, .b false)] []) (by simp; exact Sub.table (by simp) (by simp)) ?_
   refine Chain.runK [] 4 fun K hK => ?_; simp; refine hK _ _ ?_; clear hK K
   refine Chain.sub (S' := mk 9 [] [(2, .b false)] []) Sub.tt ?_
   cases h
   exact Chain.nil Sub.tt
 ·clear hj
  refine AW.ret ?_
  cases h
  exact FinC.ret (by simp) (by simp)

/-- stemma/stemref3.isDigit -/
def d24 (_N : Nat) (a0 : Int) : Option Bool :=
 Option.bind (α := Bool) (
  if 48 ≤ a0 then (
   some (decide (a0 ≤ 57))
  ) else
  some false
 ) fun (v2 : Bool) =>
 some v2
set_option maxRecDepth 100000 in
set_option maxHeartbeats 4000000 in
theorem p24 (N : Nat) (a0 : Int) (r : Bool) (h : d24 N a0 = some r) : FunC Tryd.prog 24 [.d (.lit (.int .u8 a0))] (.b r) := by
 unfold d24 at h
 refine FunC.enter 9 [(0, .d (.lit (.int .u8 a0)))] (by simp) Tryd.func24 rfl (of_decide_eq_true rfl) rfl rfl ?_
 refine AW.seqR ?_
 refine Chain.runK [] 1 fun K hK => ?_; simp; refine hK _ _ ?_; clear hK K
 refine Chain.sub (S' := mk 9 [] [(0, .d (.lit (.int .u8 a0)))] []) Sub.tt ?_
 refine Chain.nil ?_
 replace h := bsome h; obtain ⟨v2, hj, h⟩ := h
 refine AW.cutR (mk 9 [] [(2, .b v2)] []) ?_ ?_
 ·clear h; have h := hj; clear hj
  refine Chain.runK [] 3 fun K hK => ?_; simp; refine hK _ _ ?_; clear hK K
  refine Chain.sub (S' := mk 9 [] [(0, .d (.lit (.int .u8 a0))), (5, .b (decide (48 ≤ a0)))] []) Sub.tt ?_
  replace h := isome h; rcases h with ⟨c3, h⟩ | ⟨c3, h⟩
  ·have c3_ : decide (48 ≤ a0) = true := decide_eq_true c3
   refine Chain.sub (Sub.bool 5 (b := decide (48 ≤ a0)) rfl c3_) ?_
   refine Chain.sub (S' := mk 9 [] [(0, .d (.lit (.int .u8 a0))), (5, .b true)] []) (by simp; exact Sub.table (by simp) (by simp)) ?_
   refine Chain.runK [] 4 fun K hK => ?_; simp; refine hK _ _ ?_; clear hK K
   refine Chain.sub (S' := mk 9 [] [(2, .b (decide (a0 ≤ 57)))] []) Sub.tt ?_
   cases h
   exact Chain.nil Sub.tt
  ·have c3_ : decide (48 ≤ a0) = false := decide_eq_false c3
   refine Chain.sub (Sub.bool 5 (b := decide (48 ≤ a0)) rfl c3_) ?_
   refine Chain.sub (S' := mk 9 [] [(0, .d (.lit (.int .u8 a0))), (5, .b false)] []) (by simp; exact Sub.table (by simp) (by simp)) ?_
   refine Chain.runK [] 4 fun K hK => ?_; simp; refine hK _ _ ?_; clear hK K
   refine Chain.sub (S' := mk 9 [] [(2, .b false)] []) Sub.tt ?_
   cases h
   exact Chain.nil Sub.tt
 ·clear hj
  refine AW.ret ?_
  cases h
  exact FinC.ret (by simp) (by simp)

/-- stemma/stemref3.word -/
def d21 (N : Nat) (a0 : ByteArray) (a1 : Int) : Option Int :=
 Option.bind (α := Int) (
  iterN (σ := Int) (ρ := Int) (fun (v16 : Int) =>
   Option.bind (α := Bool) (
    if v16 < (a0.size : Int) then (
     (idxB a0 v16).bind fun v57 =>
     (d22 N v57).bind fun r58 =>
     if r58 = true then (
      some true
     ) else
     (idxB a0 v16).bind fun v60 =>
     (d24 N v60).bind fun r61 =>
     some r61
    ) else
    some false
   ) fun (v55 : Bool) =>
   if v55 = true then (
    (chkI (v16 + 1)).bind fun v63 =>
    some (.inl v63)
   ) else
   some (.inr v16)
  ) N a1
 ) fun (v48 : Int) =>
 some v48
set_option maxRecDepth 100000 in
set_option maxHeartbeats 4000000 in
theorem p21 (N : Nat) (a0 : ByteArray) (a1 : Int) (r : Int) (h : d21 N a0 a1 = some r) : FunC Tryd.prog 21 [.d (.lit (.string a0)), .i a1] (.i r) := by
 unfold d21 at h
 refine FunC.enter 24 [(0, .d (.lit (.string a0))), (1, .i a1)] (by simp) Tryd.func21 rfl (of_decide_eq_true rfl) rfl rfl ?_
 refine AW.seqR ?_
 refine Chain.runK [] 1 fun K hK => ?_; simp; refine hK _ _ ?_; clear hK K
 refine Chain.sub (S' := mk 24 [] [(0, .d (.lit (.string a0))), (1, .i a1)] []) Sub.tt ?_
 refine Chain.nil ?_
 refine AW.seqN (fun (v48 : Int) => mk 24 [] [(1, .i v48)] []) h ?_ ?_ <;> clear h
 ·intro o h
  refine AW.block ?_
  refine AW.iter (fun (v16 : Int) => mk 24 [] [(0, .d (.lit (.string a0))), (1, .i v16)] []) h Sub.tt ?_
  clear h
  rintro v16 x h
  refine AW.seq ?_
  replace h := bsome h; obtain ⟨v55, hj, h⟩ := h
  refine AW.cutR (mk 24 [] [(0, .d (.lit (.string a0))), (1, .i v16), (20, .b v55)] []) ?_ ?_
  ·clear h; have h := hj; clear hj
   refine Chain.runK [] 5 fun K hK => ?_; simp; refine hK _ _ ?_; clear hK K
   refine Chain.sub (S' := mk 24 [] [(0, .d (.lit (.string a0))), (1, .i v16), (9, .b (decide (v16 < (a0.size : Int))))] []) Sub.tt ?_
   replace h := isome h; rcases h with ⟨c56, h⟩ | ⟨c56, h⟩
   ·have c56_ : decide (v16 < (a0.size : Int)) = true := decide_eq_true c56
    refine Chain.sub (Sub.bool 9 (b := decide (v16 < (a0.size : Int))) rfl c56_) ?_
    refine Chain.sub (S' := mk 24 [] [(0, .d (.lit (.string a0))), (1, .i v16), (9, .b true)] []) (by simp; exact Sub.table (by simp) (by simp)) ?_
    replace h := bsome h; obtain ⟨v57, gv57, h⟩ := h
    obtain ⟨bv57, kv57, hv57k, hv57a, hv57b, hv57c⟩ := idxB_some gv57
    refine Chain.runK [] 3 fun K hK => ?_; simp [hv57k, hv57a, hv57b, hv57c]; refine hK _ _ ?_; clear hK K
    refine Chain.sub (S' := mk 24 [] [(0, .d (.lit (.string a0))), (1, .i v16), (9, .b true), (10, .d (.lit (.string a0))), (11, .i v16), (12, .d (.lit (.int .u8 v57)))] []) Sub.tt ?_
    replace h := bsome h; obtain ⟨r58, hr58, h⟩ := h
    refine Chain.callL (d := 13) (p22 N v57 r58 hr58) (by simp) rfl rfl (by simp <;> rfl) (by simp <;> rfl) ent22 (by simp <;> rfl) ?_
    refine Chain.sub (S' := mk 24 [] [(0, .d (.lit (.string a0))), (1, .i v16), (9, .b true), (10, .d (.lit (.string a0))), (11, .i v16), (12, .d (.lit (.int .u8 v57))), (13, .b r58)] []) (by simp; exact Sub.table (by simp) (by simp)) ?_
    refine Chain.runK [] 1 fun K hK => ?_; simp; refine hK _ _ ?_; clear hK K
    refine Chain.sub (S' := mk 24 [] [(0, .d (.lit (.string a0))), (1, .i v16), (9, .b true), (10, .d (.lit (.string a0))), (11, .i v16), (12, .d (.lit (.int .u8 v57))), (13, .b r58), (14, .b r58)] []) Sub.tt ?_
    replace h := isome h; rcases h with ⟨c59, h⟩ | ⟨c59, h⟩
    ·have c59_ : r58 = true := c59
     refine Chain.sub (Sub.bool 13 (b := r58) rfl c59_) ?_
     refine Chain.sub (Sub.bool 14 (b := r58) rfl c59_) ?_
     refine Chain.sub (S' := mk 24 [] [(0, .d (.lit (.string a0))), (1, .i v16), (9, .b true), (10, .d (.lit (.string a0))), (11, .i v16), (12, .d (.lit (.int .u8 v57))), (13, .b true), (14, .b true)] []) (by simp; exact Sub.table (by simp) (by simp)) ?_
     refine Chain.runK [] 6 fun K hK => ?_; simp; refine hK _ _ ?_; clear hK K
     refine Chain.sub (S' := mk 24 [] [(0, .d (.lit (.string a0))), (1, .i v16), (10, .d (.lit (.string a0))), (11, .i v16), (12, .d (.lit (.int .u8 v57))), (13, .b true), (14, .b true), (15, .tup []), (16, .tup []), (17, .tup []), (18, .tup []), (19, .b true), (20, .b true)] []) Sub.tt ?_
     cases h
     exact Chain.nil Sub.tt
    ·have c59_ : r58 = false := Bool.eq_false_iff.2 c59
     refine Chain.sub (Sub.bool 13 (b := r58) rfl c59_) ?_
     refine Chain.sub (Sub.bool 14 (b := r58) rfl c59_) ?_
     refine Chain.sub (S' := mk 24 [] [(0, .d (.lit (.string a0))), (1, .i v16), (9, .b true), (10, .d (.lit (.string a0))), (11, .i v16), (12, .d (.lit (.int .u8 v57))), (13, .b false), (14, .b false)] []) (by simp; exact Sub.table (by simp) (by simp)) ?_
     replace h := bsome h; obtain ⟨v60, gv60, h⟩ := h
     obtain ⟨bv60, kv60, hv60k, hv60a, hv60b, hv60c⟩ := idxB_some gv60
     refine Chain.runK [] 3 fun K hK => ?_; simp [hv60k, hv60a, hv60b, hv60c]; refine hK _ _ ?_; clear hK K
     refine Chain.sub (S' := mk 24 [] [(0, .d (.lit (.string a0))), (1, .i v16), (9, .b true), (10, .d (.lit (.string a0))), (11, .i v16), (12, .d (.lit (.int .u8 v57))), (13, .b false), (14, .b false), (15, .d (.lit (.string a0))), (16, .i v16), (17, .d (.lit (.int .u8 v60)))] []) Sub.tt ?_
     replace h := bsome h; obtain ⟨r61, hr61, h⟩ := h
     refine Chain.callL (d := 18) (p24 N v60 r61 hr61) (by simp) rfl rfl (by simp <;> rfl) (by simp <;> rfl) ent24 (by simp <;> rfl) ?_
     refine Chain.sub (S' := mk 24 [] [(0, .d (.lit (.string a0))), (1, .i v16), (9, .b true), (10, .d (.lit (.string a0))), (11, .i v16), (12, .d (.lit (.int .u8 v57))), (13, .b false), (14, .b false), (15, .d (.lit (.string a0))), (16, .i v16), (17, .d (.lit (.int .u8 v60))), (18, .b r61)] []) (by simp; exact Sub.table (by simp) (by simp)) ?_
     refine Chain.runK [] 2 fun K hK => ?_; simp; refine hK _ _ ?_; clear hK K
     refine Chain.sub (S' := mk 24 [] [(0, .d (.lit (.string a0))), (1, .i v16), (10, .d (.lit (.string a0))), (11, .i v16), (12, .d (.lit (.int .u8 v57))), (13, .b false), (14, .b false), (15, .d (.lit (.string a0))), (16, .i v16), (17, .d (.lit (.int .u8 v60))), (18, .b r61), (19, .b r61), (20, .b r61)] []) Sub.tt ?_
     cases h
     exact Chain.nil Sub.tt
   ·have c56_ : decide (v16 < (a0.size : Int)) = false := decide_eq_false c56
    refine Chain.sub (Sub.bool 9 (b := decide (v16 < (a0.size : Int))) rfl c56_) ?_
    refine Chain.sub (S' := mk 24 [] [(0, .d (.lit (.string a0))), (1, .i v16), (9, .b false)] []) (by simp; exact Sub.table (by simp) (by simp)) ?_
    refine Chain.runK [] 11 fun K hK => ?_; simp; refine hK _ _ ?_; clear hK K
    refine Chain.sub (S' := mk 24 [] [(0, .d (.lit (.string a0))), (1, .i v16), (10, .tup []), (11, .tup []), (12, .tup []), (13, .tup []), (14, .tup []), (15, .tup []), (16, .tup []), (17, .tup []), (18, .tup []), (19, .tup []), (20, .b false)] []) Sub.tt ?_
    cases h
    exact Chain.nil Sub.tt
  ·clear hj
   replace h := isome h; rcases h with ⟨c62, h⟩ | ⟨c62, h⟩
   ·have c62_ : v55 = true := c62
    refine AW.condT (b := v55) rfl c62_ ?_
    refine AW.sub (Sub.bool 20 (b := v55) rfl c62_) ?_
    refine AW.sub (S' := mk 24 [] [(0, .d (.lit (.string a0))), (1, .i v16), (20, .b true)] []) (by simp; exact Sub.table (by simp) (by simp)) ?_
    refine AW.skip ?_
    refine thenQ_normal ?_
    refine AW.block ?_
    refine AW.region ?_
    replace h := bsome h; obtain ⟨v63, hv63, h⟩ := h
    have hv63 := chkI_some hv63
    refine Chain.runK [] 3 fun K hK => ?_; simp [hv63]; refine hK _ _ ?_; clear hK K
    refine Chain.sub (S' := mk 24 [] [(0, .d (.lit (.string a0))), (1, .i v63)] []) Sub.tt ?_
    refine Chain.nil ?_
    cases h
    refine blockQ.normal ?_
    refine PostI.next ?_
    exact Sub.tt
   ·have c62_ : v55 = false := Bool.eq_false_iff.2 c62
    refine AW.condF (b := v55) rfl c62_ ?_
    refine AW.sub (Sub.bool 20 (b := v55) rfl c62_) ?_
    refine AW.sub (S' := mk 24 [] [(0, .d (.lit (.string a0))), (1, .i v16), (20, .b false)] []) (by simp; exact Sub.table (by simp) (by simp)) ?_
    refine AW.exit ?_
    cases h
    refine thenQ_pass (by simp) ?_
    refine PostI.out (by simp) ?_
    rintro rfl
    refine blockQ.hit ?_
    refine PostN.next ?_
    exact Sub.tt
 ·rintro v48 h
  refine AW.seqR ?_
  refine Chain.runK [] 2 fun K hK => ?_; simp; refine hK _ _ ?_; clear hK K
  refine Chain.sub (S' := mk 24 [] [(4, .i v48)] []) Sub.tt ?_
  refine Chain.nil ?_
  refine AW.ret ?_
  cases h
  exact FinC.ret (by simp) (by simp)

end Go.Proofs.YtdiekinmoklonabDoor
