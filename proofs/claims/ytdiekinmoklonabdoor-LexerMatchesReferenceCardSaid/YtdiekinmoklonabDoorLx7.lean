/- Functions of the program as functional programs; the code computes them. -/
import Derived.Test.YtdiekinmoklonabDoorLx6
namespace Go.Proofs.YtdiekinmoklonabDoor
open Go.Ab Go.Rp
attribute [-simp] List.all_eq_true Array.all_toList Array.all_eq_true

/-- stemma/stemref3.Tokens -/
def d6 (N : Nat) (a0 : ByteArray) : Option ((List S29) × Int × Int) :=
 if (a0.size : Int) > 4000 then (
  some (([] : List S29), 0, 2)
 ) else
 bindO (β := List S29) (ρ := ((List S29) × Int × Int)) (
  iterN (σ := ((List S29) × Int)) (ρ := (Out (List S29) ((List S29) × Int × Int))) (fun ((l15, v16) : ((List S29) × Int)) =>
   if v16 < (a0.size : Int) then (
    Option.bind (α := Bool) (
     (idxB a0 v16).bind fun v51 =>
     if (v51 == 32) then (
      some true
     ) else
     (idxB a0 v16).bind fun v53 =>
     some (v53 == 10)
    ) fun (v50 : Bool) =>
    if v50 = true then (
     (chkI (v16 + 1)).bind fun v55 =>
     some (.inl (l15, v55))
    ) else
    (d12 N a0 v16).bind fun r56 =>
    if r56.2 < 0 then (
     some (.inr (.ret (([] : List S29), v16, 22)))
    ) else
    (appL 40 l15 [(S29.mk r56.1.Kind r56.1.Text r56.1.Number v16)]).bind fun _l58 =>
    some (.inl ((l15 ++ [(S29.mk r56.1.Kind r56.1.Text r56.1.Number v16)]), r56.2))
   ) else
   some (.inr (.go l15))
  ) N (([] : List S29), 0)
 ) fun (l45 : List S29) =>
 some (l45, 0, 0)
set_option maxRecDepth 100000 in
set_option maxHeartbeats 4000000 in
theorem p6 (N : Nat) (a0 : ByteArray) (r : ((List S29) × Int × Int)) (h : d6 N a0 = some r) : FunC Tryd.prog 6 [.d (.lit (.string a0))] (.tup [.d (.sl (r.1.map cS29)), .i r.2.1, .i r.2.2]) := by
 unfold d6 at h
 refine FunC.enter 45 [(0, .d (.lit (.string a0)))] (by simp) Tryd.func6 rfl (of_decide_eq_true rfl) rfl rfl ?_
 refine AW.seqR ?_
 refine Chain.runK [] 3 fun K hK => ?_; simp; refine hK _ _ ?_; clear hK K
 refine Chain.sub (S' := mk 45 [] [(0, .d (.lit (.string a0)))] []) Sub.tt ?_
 refine Chain.nil ?_
 refine AW.seq ?_
 refine AW.seqR ?_
 refine Chain.runK [] 3 fun K hK => ?_; simp; refine hK _ _ ?_; clear hK K
 refine Chain.sub (S' := mk 45 [] [(0, .d (.lit (.string a0))), (11, .b (decide ((a0.size : Int) > 4000)))] []) Sub.tt ?_
 refine Chain.nil ?_
 replace h := isome h; rcases h with ⟨c1, h⟩ | ⟨c1, h⟩
 ·have c1_ : decide ((a0.size : Int) > 4000) = true := decide_eq_true c1
  refine AW.condT (b := decide ((a0.size : Int) > 4000)) rfl c1_ ?_
  refine AW.sub (Sub.bool 11 (b := decide ((a0.size : Int) > 4000)) rfl c1_) ?_
  refine AW.sub (S' := mk 45 [] [(0, .d (.lit (.string a0))), (11, .b true)] []) (by simp; exact Sub.table (by simp) (by simp)) ?_
  refine AW.seqR ?_
  refine Chain.runK [] 3 fun K hK => ?_; simp; refine hK _ _ ?_; clear hK K
  refine Chain.sub (S' := mk 45 [] [(2, .d (.lit (.slice none 0 0))), (3, .i 0), (4, .i 2)] []) Sub.tt ?_
  refine Chain.nil ?_
  refine AW.sub (Sub.wk 2 rfl) ?_
  refine AW.sub (S' := mk 45 [] [(2, .d (.sl (([] : List S29).map cS29))), (3, .i 0), (4, .i 2)] []) (by simp; exact Sub.table (by simp) (by simp)) ?_
  refine AW.ret ?_
  cases h
  refine thenQ_pass (by simp) ?_
  exact FinC.ret (by simp) (by simp)
 ·have c1_ : decide ((a0.size : Int) > 4000) = false := decide_eq_false c1
  refine AW.condF (b := decide ((a0.size : Int) > 4000)) rfl c1_ ?_
  refine AW.sub (Sub.bool 11 (b := decide ((a0.size : Int) > 4000)) rfl c1_) ?_
  refine AW.sub (S' := mk 45 [] [(0, .d (.lit (.string a0))), (11, .b false)] []) (by simp; exact Sub.table (by simp) (by simp)) ?_
  refine AW.skip ?_
  refine thenQ_normal ?_
  refine AW.seqR ?_
  refine Chain.runK [] 1 fun K hK => ?_; simp; refine hK _ _ ?_; clear hK K
  refine Chain.sub (S' := mk 45 [] [(0, .d (.lit (.string a0))), (5, .d (.lit (.slice none 0 0)))] []) Sub.tt ?_
  refine Chain.nil ?_
  refine AW.seqR ?_
  refine Chain.runK [] 1 fun K hK => ?_; simp; refine hK _ _ ?_; clear hK K
  refine Chain.sub (S' := mk 45 [] [(0, .d (.lit (.string a0))), (5, .d (.lit (.slice none 0 0))), (6, .i 0)] []) Sub.tt ?_
  refine Chain.nil ?_
  refine AW.seqJ (fun (l45 : List S29) => mk 45 [] [(5, .ref 42 0 l45.length)] [(42, R29 l45)]) h ?_ ?_ <;> clear h
  ·intro o h
   refine AW.block ?_
   refine AW.iter (fun ((l15, v16) : ((List S29) × Int)) => mk 45 [] [(0, .d (.lit (.string a0))), (5, .ref 42 0 l15.length), (6, .i v16)] [(42, R29 l15)]) h (Sub.trans (Sub.nilOwn (t := 5) (id := 42) (T := 29) (n := 4) rfl rfl (by decide)) (by simp; exact Sub.table (by simp) (by simp))) ?_
   clear h
   rintro ⟨l15, v16⟩ x h
   dsimp only at h ⊢
   refine AW.seq ?_
   refine AW.seqR ?_
   refine Chain.runK [] 4 fun K hK => ?_; simp; refine hK _ _ ?_; clear hK K
   refine Chain.sub (S' := mk 45 [] [(0, .d (.lit (.string a0))), (5, .ref 42 0 l15.length), (6, .i v16), (15, .b (decide (v16 < (a0.size : Int))))] [(42, R29 l15)]) Sub.tt ?_
   refine Chain.nil ?_
   replace h := isome h; rcases h with ⟨c46, h⟩ | ⟨c46, h⟩
   ·have c46_ : decide (v16 < (a0.size : Int)) = true := decide_eq_true c46
    refine AW.condT (b := decide (v16 < (a0.size : Int))) rfl c46_ ?_
    refine AW.sub (Sub.bool 15 (b := decide (v16 < (a0.size : Int))) rfl c46_) ?_
    refine AW.sub (S' := mk 45 [] [(0, .d (.lit (.string a0))), (5, .ref 42 0 l15.length), (6, .i v16), (15, .b true)] [(42, R29 l15)]) (by simp; exact Sub.table (by simp) (by simp)) ?_
    refine AW.skip ?_
    refine thenQ_normal ?_
    refine AW.block ?_
    refine AW.seq ?_
    replace h := bsome h; obtain ⟨v50, hj, h⟩ := h
    refine AW.cutR (mk 45 [] [(0, .d (.lit (.string a0))), (5, .ref 42 0 l15.length), (6, .i v16), (25, .b v50)] [(42, R29 l15)]) ?_ ?_
    ·clear h; have h := hj; clear hj
     replace h := bsome h; obtain ⟨v51, gv51, h⟩ := h
     obtain ⟨bv51, kv51, hv51k, hv51a, hv51b, hv51c⟩ := idxB_some gv51
     refine Chain.runK [] 5 fun K hK => ?_; simp [hv51k, hv51a, hv51b, hv51c]; refine hK _ _ ?_; clear hK K
     refine Chain.sub (S' := mk 45 [] [(0, .d (.lit (.string a0))), (5, .ref 42 0 l15.length), (6, .i v16), (20, .b (v51 == 32))] [(42, R29 l15)]) Sub.tt ?_
     replace h := isome h; rcases h with ⟨c52, h⟩ | ⟨c52, h⟩
     ·have c52_ : (v51 == 32) = true := c52
      refine Chain.sub (Sub.bool 20 (b := (v51 == 32)) rfl c52_) ?_
      refine Chain.sub (S' := mk 45 [] [(0, .d (.lit (.string a0))), (5, .ref 42 0 l15.length), (6, .i v16), (20, .b true)] [(42, R29 l15)]) (by simp; exact Sub.table (by simp) (by simp)) ?_
      refine Chain.runK [] 5 fun K hK => ?_; simp; refine hK _ _ ?_; clear hK K
      refine Chain.sub (S' := mk 45 [] [(0, .d (.lit (.string a0))), (5, .ref 42 0 l15.length), (6, .i v16), (21, .tup []), (22, .tup []), (23, .tup []), (24, .tup []), (25, .b true)] [(42, R29 l15)]) Sub.tt ?_
      cases h
      exact Chain.nil Sub.tt
     ·have c52_ : (v51 == 32) = false := Bool.eq_false_iff.2 c52
      refine Chain.sub (Sub.bool 20 (b := (v51 == 32)) rfl c52_) ?_
      refine Chain.sub (S' := mk 45 [] [(0, .d (.lit (.string a0))), (5, .ref 42 0 l15.length), (6, .i v16), (20, .b false)] [(42, R29 l15)]) (by simp; exact Sub.table (by simp) (by simp)) ?_
      replace h := bsome h; obtain ⟨v53, gv53, h⟩ := h
      obtain ⟨bv53, kv53, hv53k, hv53a, hv53b, hv53c⟩ := idxB_some gv53
      refine Chain.runK [] 5 fun K hK => ?_; simp [hv53k, hv53a, hv53b, hv53c]; refine hK _ _ ?_; clear hK K
      refine Chain.sub (S' := mk 45 [] [(0, .d (.lit (.string a0))), (5, .ref 42 0 l15.length), (6, .i v16), (21, .d (.lit (.string a0))), (22, .i v16), (23, .d (.lit (.int .u8 v53))), (24, .b (v53 == 10)), (25, .b (v53 == 10))] [(42, R29 l15)]) Sub.tt ?_
      cases h
      exact Chain.nil Sub.tt
    ·clear hj
     replace h := isome h; rcases h with ⟨c54, h⟩ | ⟨c54, h⟩
     ·have c54_ : v50 = true := c54
      refine AW.condT (b := v50) rfl c54_ ?_
      refine AW.sub (Sub.bool 25 (b := v50) rfl c54_) ?_
      refine AW.sub (S' := mk 45 [] [(0, .d (.lit (.string a0))), (5, .ref 42 0 l15.length), (6, .i v16), (25, .b true)] [(42, R29 l15)]) (by simp; exact Sub.table (by simp) (by simp)) ?_
      refine AW.seqR ?_
      replace h := bsome h; obtain ⟨v55, hv55, h⟩ := h
      have hv55 := chkI_some hv55
      refine Chain.runK [] 3 fun K hK => ?_; simp [hv55]; refine hK _ _ ?_; clear hK K
      refine Chain.sub (S' := mk 45 [] [(0, .d (.lit (.string a0))), (5, .ref 42 0 l15.length), (6, .i v55)] [(42, R29 l15)]) Sub.tt ?_
      refine Chain.nil ?_
      refine AW.exit ?_
      cases h
      refine thenQ_pass (by simp) ?_
      refine blockQ.hit ?_
      refine PostI.next ?_
      exact Sub.tt
     ·have c54_ : v50 = false := Bool.eq_false_iff.2 c54
      refine AW.condF (b := v50) rfl c54_ ?_
      refine AW.sub (Sub.bool 25 (b := v50) rfl c54_) ?_
      refine AW.sub (S' := mk 45 [] [(0, .d (.lit (.string a0))), (5, .ref 42 0 l15.length), (6, .i v16), (25, .b false)] [(42, R29 l15)]) (by simp; exact Sub.table (by simp) (by simp)) ?_
      refine AW.skip ?_
      refine thenQ_normal ?_
      refine AW.seqR ?_
      refine Chain.runK [] 2 fun K hK => ?_; simp; refine hK _ _ ?_; clear hK K
      refine Chain.sub (S' := mk 45 [] [(0, .d (.lit (.string a0))), (5, .ref 42 0 l15.length), (6, .i v16), (29, .d (.lit (.string a0))), (30, .i v16)] [(42, R29 l15)]) Sub.tt ?_
      replace h := bsome h; obtain ⟨r56, hr56, h⟩ := h
      refine Chain.callC (d := 31) (p12 N a0 v16 r56 hr56) (by simp) rfl rfl (by simp <;> rfl) (by simp <;> rfl) ent12 (by simp) (.inl ⟨by simp, by simp⟩) ?_
      refine Chain.sub (S' := mk 45 [] [(0, .d (.lit (.string a0))), (5, .ref 42 0 l15.length), (6, .i v16), (29, .d (.lit (.string a0))), (30, .i v16), (31, .tup [.agg [.i r56.1.Kind, .d (.lit (.string r56.1.Text)), .i r56.1.Number, .i r56.1.Offset], .i r56.2])] [(42, R29 l15)]) (by simp; exact Sub.table (by simp) (by simp)) ?_
      refine Chain.runK [] 6 fun K hK => ?_; simp; refine hK _ _ ?_; clear hK K
      refine Chain.sub (S' := mk 45 [] [(0, .d (.lit (.string a0))), (5, .ref 42 0 l15.length), (6, .i v16), (7, .ptr 7 0 0), (8, .i r56.2)] [(7, some (.box [.i r56.1.Kind, .d (.lit (.string r56.1.Text)), .i r56.1.Number, .i r56.1.Offset])), (42, R29 l15)]) Sub.tt ?_
      refine Chain.nil ?_
      refine AW.seq ?_
      refine AW.seqR ?_
      refine Chain.runK [] 2 fun K hK => ?_; simp; refine hK _ _ ?_; clear hK K
      refine Chain.sub (S' := mk 45 [] [(0, .d (.lit (.string a0))), (5, .ref 42 0 l15.length), (6, .i v16), (7, .ptr 7 0 0), (8, .i r56.2), (35, .b (decide (r56.2 < 0)))] [(7, some (.box [.i r56.1.Kind, .d (.lit (.string r56.1.Text)), .i r56.1.Number, .i r56.1.Offset])), (42, R29 l15)]) Sub.tt ?_
      refine Chain.nil ?_
      replace h := isome h; rcases h with ⟨c57, h⟩ | ⟨c57, h⟩
      ·have c57_ : decide (r56.2 < 0) = true := decide_eq_true c57
       refine AW.condT (b := decide (r56.2 < 0)) rfl c57_ ?_
       refine AW.sub (Sub.bool 35 (b := decide (r56.2 < 0)) rfl c57_) ?_
       refine AW.sub (S' := mk 45 [] [(0, .d (.lit (.string a0))), (5, .ref 42 0 l15.length), (6, .i v16), (7, .ptr 7 0 0), (8, .i r56.2), (35, .b true)] [(7, some (.box [.i r56.1.Kind, .d (.lit (.string r56.1.Text)), .i r56.1.Number, .i r56.1.Offset])), (42, R29 l15)]) (by simp; exact Sub.table (by simp) (by simp)) ?_
       refine AW.seqR ?_
       refine Chain.runK [] 4 fun K hK => ?_; simp; refine hK _ _ ?_; clear hK K
       refine Chain.sub (S' := mk 45 [] [(2, .d (.lit (.slice none 0 0))), (3, .i v16), (4, .i 22)] []) Sub.tt ?_
       refine Chain.nil ?_
       refine AW.sub (Sub.wk 2 rfl) ?_
       refine AW.sub (S' := mk 45 [] [(2, .d (.sl (([] : List S29).map cS29))), (3, .i v16), (4, .i 22)] []) (by simp; exact Sub.table (by simp) (by simp)) ?_
       refine AW.ret ?_
       cases h
       refine thenQ_pass (by simp) ?_
       refine blockQ.ret ?_
       refine PostI.out (by simp) ?_
       rintro rfl
       refine blockQ.ret ?_
       refine PostJ.out (by simp) ?_
       rintro rfl
       exact FinC.ret (by simp) (by simp)
      ·have c57_ : decide (r56.2 < 0) = false := decide_eq_false c57
       refine AW.condF (b := decide (r56.2 < 0)) rfl c57_ ?_
       refine AW.sub (Sub.bool 35 (b := decide (r56.2 < 0)) rfl c57_) ?_
       refine AW.sub (S' := mk 45 [] [(0, .d (.lit (.string a0))), (5, .ref 42 0 l15.length), (6, .i v16), (7, .ptr 7 0 0), (8, .i r56.2), (35, .b false)] [(7, some (.box [.i r56.1.Kind, .d (.lit (.string r56.1.Text)), .i r56.1.Number, .i r56.1.Offset])), (42, R29 l15)]) (by simp; exact Sub.table (by simp) (by simp)) ?_
       refine AW.skip ?_
       refine thenQ_normal ?_
       refine AW.seqR ?_
       refine Chain.runK [] 3 fun K hK => ?_; simp; refine hK _ _ ?_; clear hK K
       refine Chain.sub (S' := mk 45 [] [(0, .d (.lit (.string a0))), (5, .ref 42 0 l15.length), (7, .ptr 7 0 0), (8, .i r56.2)] [(7, some (.box [.i r56.1.Kind, .d (.lit (.string r56.1.Text)), .i r56.1.Number, .i v16])), (42, R29 l15)]) Sub.tt ?_
       refine Chain.nil ?_
       refine AW.seqR ?_
       replace h := bsome h; obtain ⟨l58, hl58, h⟩ := h
       obtain ⟨hl58a, hl58⟩ := appL_some hl58
       subst hl58
       try simp only [List.length_cons, List.length_nil, Nat.zero_add] at hl58a
       refine Chain.runK [41] 5 fun K hK => ?_; simp [hl58a]; refine hK _ _ ?_; clear hK K
       refine Chain.sub (S' := mk 45 [] [(0, .d (.lit (.string a0))), (5, .ref 42 0 ((l15 ++ [(S29.mk r56.1.Kind r56.1.Text r56.1.Number v16)]).length)), (8, .i r56.2)] [(42, R29 (l15 ++ [(S29.mk r56.1.Kind r56.1.Text r56.1.Number v16)]))]) Sub.tt ?_
       refine Chain.nil ?_
       refine AW.region ?_
       refine Chain.runK [] 2 fun K hK => ?_; simp; refine hK _ _ ?_; clear hK K
       refine Chain.sub (S' := mk 45 [] [(0, .d (.lit (.string a0))), (5, .ref 42 0 ((l15 ++ [(S29.mk r56.1.Kind r56.1.Text r56.1.Number v16)]).length)), (6, .i r56.2)] [(42, R29 (l15 ++ [(S29.mk r56.1.Kind r56.1.Text r56.1.Number v16)]))]) Sub.tt ?_
       refine Chain.nil ?_
       cases h
       refine blockQ.normal ?_
       refine PostI.next ?_
       exact Sub.tt
   ·have c46_ : decide (v16 < (a0.size : Int)) = false := decide_eq_false c46
    refine AW.condF (b := decide (v16 < (a0.size : Int))) rfl c46_ ?_
    refine AW.sub (Sub.bool 15 (b := decide (v16 < (a0.size : Int))) rfl c46_) ?_
    refine AW.sub (S' := mk 45 [] [(0, .d (.lit (.string a0))), (5, .ref 42 0 l15.length), (6, .i v16), (15, .b false)] [(42, R29 l15)]) (by simp; exact Sub.table (by simp) (by simp)) ?_
    refine AW.exit ?_
    cases h
    refine thenQ_pass (by simp) ?_
    refine PostI.out (by simp) ?_
    rintro rfl
    refine blockQ.hit ?_
    refine PostJ.next ?_
    exact Sub.tt
  ·rintro l45 h
   refine AW.seqR ?_
   refine Chain.runK [] 4 fun K hK => ?_; simp; refine hK _ _ ?_; clear hK K
   refine Chain.sub (S' := mk 45 [] [(2, .ref 42 0 l45.length), (3, .i 0), (4, .i 0)] [(42, R29 l45)]) Sub.tt ?_
   refine Chain.nil ?_
   refine AW.sub (Sub.freeze 42 rfl) ?_
   refine AW.sub (S' := mk 45 [] [(2, .d (.sl (l45.map cS29))), (3, .i 0), (4, .i 0)] []) (by simp; exact Sub.table (by simp) (by simp)) ?_
   refine AW.ret ?_
   cases h
   exact FinC.ret (by simp) (by simp)

/-- slices.Equal[[]stemma/lexer.Token,stemma/lexer.Token] -/
def d7 (N : Nat) (a0 : (List S29)) (a1 : (List S29)) : Option Bool :=
 if ((a0.length : Int) != (a1.length : Int)) then (
  some false
 ) else
 bindO (β := Unit) (ρ := Bool) (
  iterN (σ := Int) (ρ := (Out Unit Bool)) (fun (v7 : Int) =>
   if v7 < (a0.length : Int) then (
    (idx a0 v7).bind fun x22 =>
    (idx a1 v7).bind fun x24 =>
    if (!beqS29 x22 x24) = true then (
     some (.inr (.ret false))
    ) else
    (chkI (v7 + 1)).bind fun v26 =>
    some (.inl v26)
   ) else
   some (.inr (.go ()))
  ) N 0
 ) fun (_ : Unit) =>
 some true
set_option maxRecDepth 100000 in
set_option maxHeartbeats 4000000 in
theorem p7 (N : Nat) (a0 : (List S29)) (a1 : (List S29)) (r : Bool) (h : d7 N a0 a1 = some r) : FunC Tryd.prog 7 [.d (.sl (a0.map cS29)), .d (.sl (a1.map cS29))] (.b r) := by
 unfold d7 at h
 refine FunC.enter 26 [(0, .d (.sl (a0.map cS29))), (1, .d (.sl (a1.map cS29)))] (by simp) Tryd.func7 rfl (of_decide_eq_true rfl) rfl rfl ?_
 refine AW.seqR ?_
 refine Chain.runK [] 1 fun K hK => ?_; simp; refine hK _ _ ?_; clear hK K
 refine Chain.sub (S' := mk 26 [] [(0, .d (.sl (a0.map cS29))), (1, .d (.sl (a1.map cS29)))] []) Sub.tt ?_
 refine Chain.nil ?_
 refine AW.seq ?_
 refine AW.seqR ?_
 refine Chain.runK [] 5 fun K hK => ?_; simp; refine hK _ _ ?_; clear hK K
 refine Chain.sub (S' := mk 26 [] [(0, .d (.sl (a0.map cS29))), (1, .d (.sl (a1.map cS29))), (10, .b ((a0.length : Int) != (a1.length : Int)))] []) Sub.tt ?_
 refine Chain.nil ?_
 replace h := isome h; rcases h with ⟨c1, h⟩ | ⟨c1, h⟩
 ·have c1_ : ((a0.length : Int) != (a1.length : Int)) = true := c1
  refine AW.condT (b := ((a0.length : Int) != (a1.length : Int))) rfl c1_ ?_
  refine AW.sub (Sub.bool 10 (b := ((a0.length : Int) != (a1.length : Int))) rfl c1_) ?_
  refine AW.sub (S' := mk 26 [] [(0, .d (.sl (a0.map cS29))), (1, .d (.sl (a1.map cS29))), (10, .b true)] []) (by simp; exact Sub.table (by simp) (by simp)) ?_
  refine AW.seqR ?_
  refine Chain.runK [] 1 fun K hK => ?_; simp; refine hK _ _ ?_; clear hK K
  refine Chain.sub (S' := mk 26 [] [(4, .b false)] []) Sub.tt ?_
  refine Chain.nil ?_
  refine AW.ret ?_
  cases h
  refine thenQ_pass (by simp) ?_
  exact FinC.ret (by simp) (by simp)
 ·have c1_ : ((a0.length : Int) != (a1.length : Int)) = false := Bool.eq_false_iff.2 c1
  refine AW.condF (b := ((a0.length : Int) != (a1.length : Int))) rfl c1_ ?_
  refine AW.sub (Sub.bool 10 (b := ((a0.length : Int) != (a1.length : Int))) rfl c1_) ?_
  refine AW.sub (S' := mk 26 [] [(0, .d (.sl (a0.map cS29))), (1, .d (.sl (a1.map cS29))), (10, .b false)] []) (by simp; exact Sub.table (by simp) (by simp)) ?_
  refine AW.skip ?_
  refine thenQ_normal ?_
  refine AW.seq ?_
  refine AW.seqR ?_
  refine Chain.runK [] 3 fun K hK => ?_; simp; refine hK _ _ ?_; clear hK K
  refine Chain.sub (S' := mk 26 [] [(0, .d (.sl (a0.map cS29))), (1, .d (.sl (a1.map cS29))), (12, .i (a0.length : Int)), (13, .i 0)] []) Sub.tt ?_
  refine Chain.nil ?_
  refine AW.lastJ (fun (_ : Unit) => mk 26 [] [] []) h ?_ ?_ <;> clear h
  ·intro o h
   refine AW.block ?_
   refine AW.iter (fun (v7 : Int) => mk 26 [] [(0, .d (.sl (a0.map cS29))), (1, .d (.sl (a1.map cS29))), (12, .i (a0.length : Int)), (13, .i v7)] []) h Sub.tt ?_
   clear h
   rintro v7 x h
   refine AW.seqR ?_
   refine Chain.runK [] 1 fun K hK => ?_; simp; refine hK _ _ ?_; clear hK K
   refine Chain.sub (S' := mk 26 [] [(0, .d (.sl (a0.map cS29))), (1, .d (.sl (a1.map cS29))), (12, .i (a0.length : Int)), (13, .i v7), (14, .b (decide (v7 < (a0.length : Int))))] []) Sub.tt ?_
   refine Chain.nil ?_
   refine AW.seq ?_
   replace h := isome h; rcases h with ⟨c21, h⟩ | ⟨c21, h⟩
   ·have c21_ : decide (v7 < (a0.length : Int)) = true := decide_eq_true c21
    refine AW.condT (b := decide (v7 < (a0.length : Int))) rfl c21_ ?_
    refine AW.sub (Sub.bool 14 (b := decide (v7 < (a0.length : Int))) rfl c21_) ?_
    refine AW.sub (S' := mk 26 [] [(0, .d (.sl (a0.map cS29))), (1, .d (.sl (a1.map cS29))), (12, .i (a0.length : Int)), (13, .i v7), (14, .b true)] []) (by simp; exact Sub.table (by simp) (by simp)) ?_
    refine AW.skip ?_
    refine thenQ_normal ?_
    refine AW.seq ?_
    refine AW.block ?_
    refine AW.seqR ?_
    refine Chain.runK [] 2 fun K hK => ?_; simp; refine hK _ _ ?_; clear hK K
    refine Chain.sub (S' := mk 26 [] [(0, .d (.sl (a0.map cS29))), (1, .d (.sl (a1.map cS29))), (5, .i v7), (12, .i (a0.length : Int)), (13, .i v7)] []) Sub.tt ?_
    refine Chain.nil ?_
    refine AW.seqQ (by kernel_rfl) (by kernel_rfl) ?_
    replace h := bsome h; obtain ⟨x22, hx22, h⟩ := h
    obtain ⟨k23, hx22k, hx22, hx22a, hx22b⟩ := idx_some hx22
    replace h := bsome h; obtain ⟨x24, hx24, h⟩ := h
    obtain ⟨hx24, hx24a, hx24b⟩ := idx_some2 hx24 hx22k
    refine Chain.runQ 8 fun K hK => ?_; simp [hx22, hx22a, hx24, hx22k]; refine hK _ _ ?_; clear hK K
    refine Chain.sub (S' := mk 26 [] [(0, .d (.sl (a0.map cS29))), (1, .d (.sl (a1.map cS29))), (12, .i (a0.length : Int)), (13, .i v7), (19, .agg [.i x22.Kind, .d (.lit (.string x22.Text)), .i x22.Number, .i x22.Offset]), (23, .agg [.i x24.Kind, .d (.lit (.string x24.Text)), .i x24.Number, .i x24.Offset])] []) Sub.tt ?_
    refine Chain.pureP (by simp) (pure_eqA true rfl rfl rfl rfl (by kernel_rfl) (eqv29 x22 x24)) ?_
    refine Chain.sub (S' := mk 26 [] [(0, .d (.sl (a0.map cS29))), (1, .d (.sl (a1.map cS29))), (12, .i (a0.length : Int)), (13, .i v7), (19, .agg [.i x22.Kind, .d (.lit (.string x22.Text)), .i x22.Number, .i x22.Offset]), (23, .agg [.i x24.Kind, .d (.lit (.string x24.Text)), .i x24.Number, .i x24.Offset]), (24, .b (!beqS29 x22 x24))] []) (by simp; exact Sub.table (by simp) (by simp)) ?_
    refine Chain.nil ?_
    replace h := isome h; rcases h with ⟨c25, h⟩ | ⟨c25, h⟩
    ·have c25_ : (!beqS29 x22 x24) = true := c25
     refine AW.condT (b := (!beqS29 x22 x24)) rfl c25_ ?_
     refine AW.sub (Sub.bool 24 (b := (!beqS29 x22 x24)) rfl c25_) ?_
     refine AW.sub (S' := mk 26 [] [(0, .d (.sl (a0.map cS29))), (1, .d (.sl (a1.map cS29))), (12, .i (a0.length : Int)), (13, .i v7), (19, .agg [.i x22.Kind, .d (.lit (.string x22.Text)), .i x22.Number, .i x22.Offset]), (23, .agg [.i x24.Kind, .d (.lit (.string x24.Text)), .i x24.Number, .i x24.Offset]), (24, .b true)] []) (by simp; exact Sub.table (by simp) (by simp)) ?_
     refine AW.seqR ?_
     refine Chain.runK [] 1 fun K hK => ?_; simp; refine hK _ _ ?_; clear hK K
     refine Chain.sub (S' := mk 26 [] [(4, .b false)] []) Sub.tt ?_
     refine Chain.nil ?_
     refine AW.ret ?_
     cases h
     refine blockQ.ret ?_
     refine thenQ_pass (by simp) ?_
     refine PostI.out (by simp) ?_
     rintro rfl
     refine blockQ.ret ?_
     refine PostJ.out (by simp) ?_
     rintro rfl
     refine thenQ_pass (by simp) ?_
     exact FinC.ret (by simp) (by simp)
    ·have c25_ : (!beqS29 x22 x24) = false := Bool.eq_false_iff.2 c25
     refine AW.condF (b := (!beqS29 x22 x24)) rfl c25_ ?_
     refine AW.sub (Sub.bool 24 (b := (!beqS29 x22 x24)) rfl c25_) ?_
     refine AW.sub (S' := mk 26 [] [(0, .d (.sl (a0.map cS29))), (1, .d (.sl (a1.map cS29))), (12, .i (a0.length : Int)), (13, .i v7), (19, .agg [.i x22.Kind, .d (.lit (.string x22.Text)), .i x22.Number, .i x22.Offset]), (23, .agg [.i x24.Kind, .d (.lit (.string x24.Text)), .i x24.Number, .i x24.Offset]), (24, .b false)] []) (by simp; exact Sub.table (by simp) (by simp)) ?_
     refine AW.skip ?_
     refine blockQ.normal ?_
     refine thenQ_normal ?_
     refine AW.region ?_
     replace h := bsome h; obtain ⟨v26, hv26, h⟩ := h
     have hv26 := chkI_some hv26
     refine Chain.runK [] 2 fun K hK => ?_; simp [hv26]; refine hK _ _ ?_; clear hK K
     refine Chain.sub (S' := mk 26 [] [(0, .d (.sl (a0.map cS29))), (1, .d (.sl (a1.map cS29))), (12, .i (a0.length : Int)), (13, .i v26)] []) Sub.tt ?_
     refine Chain.nil ?_
     cases h
     refine PostI.next ?_
     exact Sub.tt
   ·have c21_ : decide (v7 < (a0.length : Int)) = false := decide_eq_false c21
    refine AW.condF (b := decide (v7 < (a0.length : Int))) rfl c21_ ?_
    refine AW.sub (Sub.bool 14 (b := decide (v7 < (a0.length : Int))) rfl c21_) ?_
    refine AW.sub (S' := mk 26 [] [(0, .d (.sl (a0.map cS29))), (1, .d (.sl (a1.map cS29))), (12, .i (a0.length : Int)), (13, .i v7), (14, .b false)] []) (by simp; exact Sub.table (by simp) (by simp)) ?_
    refine AW.exit ?_
    cases h
    refine thenQ_pass (by simp) ?_
    refine PostI.out (by simp) ?_
    rintro rfl
    refine blockQ.hit ?_
    refine PostJ.next ?_
    exact Sub.tt
  ·rintro ⟨⟩ h
   refine thenQ_normal ?_
   refine AW.seqR ?_
   refine Chain.runK [] 1 fun K hK => ?_; simp; refine hK _ _ ?_; clear hK K
   refine Chain.sub (S' := mk 26 [] [(4, .b true)] []) Sub.tt ?_
   refine Chain.nil ?_
   refine AW.ret ?_
   cases h
   exact FinC.ret (by simp) (by simp)

/-- stemma/lexer.IsSchemaName -/
def d13 (N : Nat) (a0 : ByteArray) : Option Bool :=
 Option.bind (α := Bool) (
  if (a0.size : Int) < 1 then (
   some true
  ) else
  if (a0.size : Int) > 12 then (
   some true
  ) else
  (idxB a0 0).bind fun v9 =>
  if v9 < 97 then (
   some true
  ) else
  (idxB a0 0).bind fun v11 =>
  some (decide (v11 > 122))
 ) fun (v6 : Bool) =>
 if v6 = true then (
  some false
 ) else
 bindO (β := Unit) (ρ := Bool) (
  iterN (σ := Int) (ρ := (Out Unit Bool)) (fun (v18 : Int) =>
   if v18 < (a0.size : Int) then (
    (idxB a0 v18).bind fun v31 =>
    (d15 N v31).bind fun r32 =>
    if (!r32) = true then (
     some (.inr (.ret false))
    ) else
    (chkI (v18 + 1)).bind fun v34 =>
    some (.inl v34)
   ) else
   some (.inr (.go ()))
  ) N 0
 ) fun (_ : Unit) =>
 some true
set_option maxRecDepth 100000 in
set_option maxHeartbeats 4000000 in
theorem p13 (N : Nat) (a0 : ByteArray) (r : Bool) (h : d13 N a0 = some r) : FunC Tryd.prog 13 [.d (.lit (.string a0))] (.b r) := by
 unfold d13 at h
 refine FunC.enter 33 [(0, .d (.lit (.string a0)))] (by simp) Tryd.func13 rfl (of_decide_eq_true rfl) rfl rfl ?_
 refine AW.seqR ?_
 refine Chain.runK [] 1 fun K hK => ?_; simp; refine hK _ _ ?_; clear hK K
 refine Chain.sub (S' := mk 33 [] [(0, .d (.lit (.string a0)))] []) Sub.tt ?_
 refine Chain.nil ?_
 refine AW.seq ?_
 replace h := bsome h; obtain ⟨v6, hj, h⟩ := h
 refine AW.cutR (mk 33 [] [(0, .d (.lit (.string a0))), (21, .b v6)] []) ?_ ?_
 ·clear h; have h := hj; clear hj
  refine Chain.runK [] 4 fun K hK => ?_; simp; refine hK _ _ ?_; clear hK K
  refine Chain.sub (S' := mk 33 [] [(0, .d (.lit (.string a0))), (7, .b (decide ((a0.size : Int) < 1)))] []) Sub.tt ?_
  replace h := isome h; rcases h with ⟨c7, h⟩ | ⟨c7, h⟩
  ·have c7_ : decide ((a0.size : Int) < 1) = true := decide_eq_true c7
   refine Chain.sub (Sub.bool 7 (b := decide ((a0.size : Int) < 1)) rfl c7_) ?_
   refine Chain.sub (S' := mk 33 [] [(0, .d (.lit (.string a0))), (7, .b true)] []) (by simp; exact Sub.table (by simp) (by simp)) ?_
   refine Chain.runK [] 14 fun K hK => ?_; simp; refine hK _ _ ?_; clear hK K
   refine Chain.sub (S' := mk 33 [] [(0, .d (.lit (.string a0))), (21, .b true)] []) Sub.tt ?_
   cases h
   exact Chain.nil Sub.tt
  ·have c7_ : decide ((a0.size : Int) < 1) = false := decide_eq_false c7
   refine Chain.sub (Sub.bool 7 (b := decide ((a0.size : Int) < 1)) rfl c7_) ?_
   refine Chain.sub (S' := mk 33 [] [(0, .d (.lit (.string a0))), (7, .b false)] []) (by simp; exact Sub.table (by simp) (by simp)) ?_
   refine Chain.runK [] 5 fun K hK => ?_; simp; refine hK _ _ ?_; clear hK K
   refine Chain.sub (S' := mk 33 [] [(0, .d (.lit (.string a0))), (12, .b (decide ((a0.size : Int) > 12)))] []) Sub.tt ?_
   replace h := isome h; rcases h with ⟨c8, h⟩ | ⟨c8, h⟩
   ·have c8_ : decide ((a0.size : Int) > 12) = true := decide_eq_true c8
    refine Chain.sub (Sub.bool 12 (b := decide ((a0.size : Int) > 12)) rfl c8_) ?_
    refine Chain.sub (S' := mk 33 [] [(0, .d (.lit (.string a0))), (12, .b true)] []) (by simp; exact Sub.table (by simp) (by simp)) ?_
    refine Chain.runK [] 9 fun K hK => ?_; simp; refine hK _ _ ?_; clear hK K
    refine Chain.sub (S' := mk 33 [] [(0, .d (.lit (.string a0))), (21, .b true)] []) Sub.tt ?_
    cases h
    exact Chain.nil Sub.tt
   ·have c8_ : decide ((a0.size : Int) > 12) = false := decide_eq_false c8
    refine Chain.sub (Sub.bool 12 (b := decide ((a0.size : Int) > 12)) rfl c8_) ?_
    refine Chain.sub (S' := mk 33 [] [(0, .d (.lit (.string a0))), (12, .b false)] []) (by simp; exact Sub.table (by simp) (by simp)) ?_
    replace h := bsome h; obtain ⟨v9, gv9, h⟩ := h
    obtain ⟨bv9, hv9a, hv9b⟩ := idxB_someN (n := 0) gv9
    refine Chain.runK [] 5 fun K hK => ?_; simp [hv9a, hv9b]; refine hK _ _ ?_; clear hK K
    refine Chain.sub (S' := mk 33 [] [(0, .d (.lit (.string a0))), (17, .b (decide (v9 < 97)))] []) Sub.tt ?_
    replace h := isome h; rcases h with ⟨c10, h⟩ | ⟨c10, h⟩
    ·have c10_ : decide (v9 < 97) = true := decide_eq_true c10
     refine Chain.sub (Sub.bool 17 (b := decide (v9 < 97)) rfl c10_) ?_
     refine Chain.sub (S' := mk 33 [] [(0, .d (.lit (.string a0))), (17, .b true)] []) (by simp; exact Sub.table (by simp) (by simp)) ?_
     refine Chain.runK [] 4 fun K hK => ?_; simp; refine hK _ _ ?_; clear hK K
     refine Chain.sub (S' := mk 33 [] [(0, .d (.lit (.string a0))), (21, .b true)] []) Sub.tt ?_
     cases h
     exact Chain.nil Sub.tt
    ·have c10_ : decide (v9 < 97) = false := decide_eq_false c10
     refine Chain.sub (Sub.bool 17 (b := decide (v9 < 97)) rfl c10_) ?_
     refine Chain.sub (S' := mk 33 [] [(0, .d (.lit (.string a0))), (17, .b false)] []) (by simp; exact Sub.table (by simp) (by simp)) ?_
     replace h := bsome h; obtain ⟨v11, gv11, h⟩ := h
     obtain ⟨bv11, hv11a, hv11b⟩ := idxB_someN (n := 0) gv11
     refine Chain.runK [] 4 fun K hK => ?_; simp [hv11a, hv11b]; refine hK _ _ ?_; clear hK K
     refine Chain.sub (S' := mk 33 [] [(0, .d (.lit (.string a0))), (21, .b (decide (v11 > 122)))] []) Sub.tt ?_
     cases h
     exact Chain.nil Sub.tt
 ·clear hj
  replace h := isome h; rcases h with ⟨c12, h⟩ | ⟨c12, h⟩
  ·have c12_ : v6 = true := c12
   refine AW.condT (b := v6) rfl c12_ ?_
   refine AW.sub (Sub.bool 21 (b := v6) rfl c12_) ?_
   refine AW.sub (S' := mk 33 [] [(0, .d (.lit (.string a0))), (21, .b true)] []) (by simp; exact Sub.table (by simp) (by simp)) ?_
   refine AW.seqR ?_
   refine Chain.runK [] 1 fun K hK => ?_; simp; refine hK _ _ ?_; clear hK K
   refine Chain.sub (S' := mk 33 [] [(2, .b false)] []) Sub.tt ?_
   refine Chain.nil ?_
   refine AW.ret ?_
   cases h
   refine thenQ_pass (by simp) ?_
   exact FinC.ret (by simp) (by simp)
  ·have c12_ : v6 = false := Bool.eq_false_iff.2 c12
   refine AW.condF (b := v6) rfl c12_ ?_
   refine AW.sub (Sub.bool 21 (b := v6) rfl c12_) ?_
   refine AW.sub (S' := mk 33 [] [(0, .d (.lit (.string a0))), (21, .b false)] []) (by simp; exact Sub.table (by simp) (by simp)) ?_
   refine AW.skip ?_
   refine thenQ_normal ?_
   refine AW.seq ?_
   refine AW.seqR ?_
   refine Chain.runK [] 3 fun K hK => ?_; simp; refine hK _ _ ?_; clear hK K
   refine Chain.sub (S' := mk 33 [] [(0, .d (.lit (.string a0))), (23, .i (a0.size : Int)), (24, .i 0)] []) Sub.tt ?_
   refine Chain.nil ?_
   refine AW.lastJ (fun (_ : Unit) => mk 33 [] [] []) h ?_ ?_ <;> clear h
   ·intro o h
    refine AW.block ?_
    refine AW.iter (fun (v18 : Int) => mk 33 [] [(0, .d (.lit (.string a0))), (23, .i (a0.size : Int)), (24, .i v18)] []) h Sub.tt ?_
    clear h
    rintro v18 x h
    refine AW.seqR ?_
    refine Chain.runK [] 1 fun K hK => ?_; simp; refine hK _ _ ?_; clear hK K
    refine Chain.sub (S' := mk 33 [] [(0, .d (.lit (.string a0))), (23, .i (a0.size : Int)), (24, .i v18), (25, .b (decide (v18 < (a0.size : Int))))] []) Sub.tt ?_
    refine Chain.nil ?_
    refine AW.seq ?_
    replace h := isome h; rcases h with ⟨c30, h⟩ | ⟨c30, h⟩
    ·have c30_ : decide (v18 < (a0.size : Int)) = true := decide_eq_true c30
     refine AW.condT (b := decide (v18 < (a0.size : Int))) rfl c30_ ?_
     refine AW.sub (Sub.bool 25 (b := decide (v18 < (a0.size : Int))) rfl c30_) ?_
     refine AW.sub (S' := mk 33 [] [(0, .d (.lit (.string a0))), (23, .i (a0.size : Int)), (24, .i v18), (25, .b true)] []) (by simp; exact Sub.table (by simp) (by simp)) ?_
     refine AW.skip ?_
     refine thenQ_normal ?_
     refine AW.seq ?_
     refine AW.block ?_
     refine AW.seqR ?_
     refine Chain.runK [] 2 fun K hK => ?_; simp; refine hK _ _ ?_; clear hK K
     refine Chain.sub (S' := mk 33 [] [(0, .d (.lit (.string a0))), (3, .i v18), (23, .i (a0.size : Int)), (24, .i v18)] []) Sub.tt ?_
     refine Chain.nil ?_
     refine AW.seqR ?_
     replace h := bsome h; obtain ⟨v31, gv31, h⟩ := h
     obtain ⟨bv31, kv31, hv31k, hv31a, hv31b, hv31c⟩ := idxB_some gv31
     refine Chain.runK [] 3 fun K hK => ?_; simp [hv31k, hv31a, hv31b, hv31c]; refine hK _ _ ?_; clear hK K
     refine Chain.sub (S' := mk 33 [] [(0, .d (.lit (.string a0))), (23, .i (a0.size : Int)), (24, .i v18), (29, .d (.lit (.int .u8 v31)))] []) Sub.tt ?_
     replace h := bsome h; obtain ⟨r32, hr32, h⟩ := h
     refine Chain.callL (d := 30) (p15 N v31 r32 hr32) (by simp) rfl rfl (by simp <;> rfl) (by simp <;> rfl) ent15 (by simp <;> rfl) ?_
     refine Chain.sub (S' := mk 33 [] [(0, .d (.lit (.string a0))), (23, .i (a0.size : Int)), (24, .i v18), (29, .d (.lit (.int .u8 v31))), (30, .b r32)] []) (by simp; exact Sub.table (by simp) (by simp)) ?_
     refine Chain.runK [] 1 fun K hK => ?_; simp; refine hK _ _ ?_; clear hK K
     refine Chain.sub (S' := mk 33 [] [(0, .d (.lit (.string a0))), (23, .i (a0.size : Int)), (24, .i v18), (31, .b (!r32))] []) Sub.tt ?_
     refine Chain.nil ?_
     replace h := isome h; rcases h with ⟨c33, h⟩ | ⟨c33, h⟩
     ·have c33_ : (!r32) = true := c33
      refine AW.condT (b := (!r32)) rfl c33_ ?_
      refine AW.sub (Sub.bool 31 (b := (!r32)) rfl c33_) ?_
      refine AW.sub (S' := mk 33 [] [(0, .d (.lit (.string a0))), (23, .i (a0.size : Int)), (24, .i v18), (31, .b true)] []) (by simp; exact Sub.table (by simp) (by simp)) ?_
      refine AW.seqR ?_
      refine Chain.runK [] 1 fun K hK => ?_; simp; refine hK _ _ ?_; clear hK K
      refine Chain.sub (S' := mk 33 [] [(2, .b false)] []) Sub.tt ?_
      refine Chain.nil ?_
      refine AW.ret ?_
      cases h
      refine blockQ.ret ?_
      refine thenQ_pass (by simp) ?_
      refine PostI.out (by simp) ?_
      rintro rfl
      refine blockQ.ret ?_
      refine PostJ.out (by simp) ?_
      rintro rfl
      refine thenQ_pass (by simp) ?_
      exact FinC.ret (by simp) (by simp)
     ·have c33_ : (!r32) = false := Bool.eq_false_iff.2 c33
      refine AW.condF (b := (!r32)) rfl c33_ ?_
      refine AW.sub (Sub.bool 31 (b := (!r32)) rfl c33_) ?_
      refine AW.sub (S' := mk 33 [] [(0, .d (.lit (.string a0))), (23, .i (a0.size : Int)), (24, .i v18), (31, .b false)] []) (by simp; exact Sub.table (by simp) (by simp)) ?_
      refine AW.skip ?_
      refine blockQ.normal ?_
      refine thenQ_normal ?_
      refine AW.region ?_
      replace h := bsome h; obtain ⟨v34, hv34, h⟩ := h
      have hv34 := chkI_some hv34
      refine Chain.runK [] 2 fun K hK => ?_; simp [hv34]; refine hK _ _ ?_; clear hK K
      refine Chain.sub (S' := mk 33 [] [(0, .d (.lit (.string a0))), (23, .i (a0.size : Int)), (24, .i v34)] []) Sub.tt ?_
      refine Chain.nil ?_
      cases h
      refine PostI.next ?_
      exact Sub.tt
    ·have c30_ : decide (v18 < (a0.size : Int)) = false := decide_eq_false c30
     refine AW.condF (b := decide (v18 < (a0.size : Int))) rfl c30_ ?_
     refine AW.sub (Sub.bool 25 (b := decide (v18 < (a0.size : Int))) rfl c30_) ?_
     refine AW.sub (S' := mk 33 [] [(0, .d (.lit (.string a0))), (23, .i (a0.size : Int)), (24, .i v18), (25, .b false)] []) (by simp; exact Sub.table (by simp) (by simp)) ?_
     refine AW.exit ?_
     cases h
     refine thenQ_pass (by simp) ?_
     refine PostI.out (by simp) ?_
     rintro rfl
     refine blockQ.hit ?_
     refine PostJ.next ?_
     exact Sub.tt
   ·rintro ⟨⟩ h
    refine thenQ_normal ?_
    refine AW.seqR ?_
    refine Chain.runK [] 1 fun K hK => ?_; simp; refine hK _ _ ?_; clear hK K
    refine Chain.sub (S' := mk 33 [] [(2, .b true)] []) Sub.tt ?_
    refine Chain.nil ?_
    refine AW.ret ?_
    cases h
    exact FinC.ret (by simp) (by simp)

/-- stemma/lexer.IsIdentifier -/
def d8 (N : Nat) (a0 : ByteArray) : Option Bool :=
 Option.bind (α := Bool) (
  (d13 N a0).bind fun r6 =>
  if r6 = true then (
   (d10 N ).bind fun r8 =>
   (d9 N r8 a0).bind fun r9 =>
   some (!r9)
  ) else
  some false
 ) fun (v5 : Bool) =>
 some v5
set_option maxRecDepth 100000 in
set_option maxHeartbeats 4000000 in
theorem p8 (N : Nat) (a0 : ByteArray) (r : Bool) (h : d8 N a0 = some r) : FunC Tryd.prog 8 [.d (.lit (.string a0))] (.b r) := by
 unfold d8 at h
 refine FunC.enter 11 [(0, .d (.lit (.string a0)))] (by simp) Tryd.func8 rfl (of_decide_eq_true rfl) rfl rfl ?_
 refine AW.seqR ?_
 refine Chain.runK [] 1 fun K hK => ?_; simp; refine hK _ _ ?_; clear hK K
 refine Chain.sub (S' := mk 11 [] [(0, .d (.lit (.string a0)))] []) Sub.tt ?_
 refine Chain.nil ?_
 replace h := bsome h; obtain ⟨v5, hj, h⟩ := h
 refine AW.cutR (mk 11 [] [(2, .b v5)] []) ?_ ?_
 ·clear h; have h := hj; clear hj
  refine Chain.runK [] 1 fun K hK => ?_; simp; refine hK _ _ ?_; clear hK K
  refine Chain.sub (S' := mk 11 [] [(0, .d (.lit (.string a0))), (3, .d (.lit (.string a0)))] []) Sub.tt ?_
  replace h := bsome h; obtain ⟨r6, hr6, h⟩ := h
  refine Chain.callL (d := 4) (p13 N a0 r6 hr6) (by simp) rfl rfl (by simp <;> rfl) (by simp <;> rfl) ent13 (by simp <;> rfl) ?_
  refine Chain.sub (S' := mk 11 [] [(0, .d (.lit (.string a0))), (3, .d (.lit (.string a0))), (4, .b r6)] []) (by simp; exact Sub.table (by simp) (by simp)) ?_
  refine Chain.runK [] 1 fun K hK => ?_; simp; refine hK _ _ ?_; clear hK K
  refine Chain.sub (S' := mk 11 [] [(0, .d (.lit (.string a0))), (5, .b r6)] []) Sub.tt ?_
  replace h := isome h; rcases h with ⟨c7, h⟩ | ⟨c7, h⟩
  ·have c7_ : r6 = true := c7
   refine Chain.sub (Sub.bool 5 (b := r6) rfl c7_) ?_
   refine Chain.sub (S' := mk 11 [] [(0, .d (.lit (.string a0))), (5, .b true)] []) (by simp; exact Sub.table (by simp) (by simp)) ?_
   replace h := bsome h; obtain ⟨r8, hr8, h⟩ := h
   refine Chain.callC (d := 6) (p10 N  r8 hr8) (by simp) rfl rfl (by simp <;> rfl) (by simp <;> rfl) ent10 (by simp) (.inl ⟨by simp, by simp⟩) ?_
   refine Chain.sub (S' := mk 11 [] [(0, .d (.lit (.string a0))), (5, .b true), (6, .d (.sl (r8.map cS)))] []) (by simp; exact Sub.table (by simp) (by simp)) ?_
   refine Chain.runK [] 1 fun K hK => ?_; simp; refine hK _ _ ?_; clear hK K
   refine Chain.sub (S' := mk 11 [] [(5, .b true), (6, .d (.sl (r8.map cS))), (7, .d (.lit (.string a0)))] []) Sub.tt ?_
   replace h := bsome h; obtain ⟨r9, hr9, h⟩ := h
   refine Chain.callL (d := 8) (p9 N r8 a0 r9 hr9) (by simp) rfl rfl (by simp <;> rfl) (by simp <;> rfl) ent9 (by simp <;> rfl) ?_
   refine Chain.sub (S' := mk 11 [] [(5, .b true), (6, .d (.sl (r8.map cS))), (7, .d (.lit (.string a0))), (8, .b r9)] []) (by simp; exact Sub.table (by simp) (by simp)) ?_
   refine Chain.runK [] 3 fun K hK => ?_; simp; refine hK _ _ ?_; clear hK K
   refine Chain.sub (S' := mk 11 [] [(2, .b (!r9))] []) Sub.tt ?_
   cases h
   exact Chain.nil Sub.tt
  ·have c7_ : r6 = false := Bool.eq_false_iff.2 c7
   refine Chain.sub (Sub.bool 5 (b := r6) rfl c7_) ?_
   refine Chain.sub (S' := mk 11 [] [(0, .d (.lit (.string a0))), (5, .b false)] []) (by simp; exact Sub.table (by simp) (by simp)) ?_
   refine Chain.runK [] 6 fun K hK => ?_; simp; refine hK _ _ ?_; clear hK K
   refine Chain.sub (S' := mk 11 [] [(2, .b false)] []) Sub.tt ?_
   cases h
   exact Chain.nil Sub.tt
 ·clear hj
  refine AW.ret ?_
  cases h
  exact FinC.ret (by simp) (by simp)

/-- stemma/stemlaw3.LexerMatchesReference -/
def d3 (N : Nat) (a0 : ByteArray) : Option Bool :=
 (d4 N ).bind fun r1 =>
 if (!r1) = true then (
  some false
 ) else
 (d5 N a0).bind fun r3 =>
 (d6 N a0).bind fun r4 =>
 Option.bind (α := Bool) (
  if (r3.2.2 != r4.2.2) then (
   some true
  ) else
  if (r3.2.1 != r4.2.1) then (
   some true
  ) else
  (d7 N r3.1 r4.1).bind fun r11 =>
  some (!r11)
 ) fun (v8 : Bool) =>
 if v8 = true then (
  some false
 ) else
 Option.bind (α := Bool) (
  if ((r3.1.length : Int) == 1) then (
   (idx r3.1 0).bind fun x17 =>
   some ((x17.Text.size : Int) == (a0.size : Int))
  ) else
  some false
 ) fun (v15 : Bool) =>
 Option.bind (α := Bool) (
  (d8 N a0).bind fun r27 =>
  if v15 = true then (
   (idx r3.1 0).bind fun x29 =>
   if (r27 == (x29.Kind == 1)) then (
    if (x29.Kind != 2) then (
     some true
    ) else
    (d10 N ).bind fun r32 =>
    (d9 N r32 a0).bind fun r33 =>
    some r33
   ) else
   some false
  ) else
  if (r27 == false) then (
   some true
  ) else
  some false
 ) fun (v26 : Bool) =>
 some v26
set_option maxRecDepth 100000 in
set_option maxHeartbeats 4000000 in
theorem p3 (N : Nat) (a0 : ByteArray) (r : Bool) (h : d3 N a0 = some r) : FunC Tryd.prog 3 [.d (.lit (.string a0))] (.b r) := by
 unfold d3 at h
 refine FunC.enter 78 [(0, .d (.lit (.string a0)))] (by simp) Tryd.func3 rfl (of_decide_eq_true rfl) rfl rfl ?_
 refine AW.seqR ?_
 refine Chain.runK [] 1 fun K hK => ?_; simp; refine hK _ _ ?_; clear hK K
 refine Chain.sub (S' := mk 78 [] [(0, .d (.lit (.string a0)))] []) Sub.tt ?_
 refine Chain.nil ?_
 refine AW.seq ?_
 refine AW.seqR ?_
 replace h := bsome h; obtain ⟨r1, hr1, h⟩ := h
 refine Chain.callL (d := 10) (p4 N  r1 hr1) (by simp) rfl rfl (by simp <;> rfl) (by simp <;> rfl) ent4 (by simp <;> rfl) ?_
 refine Chain.sub (S' := mk 78 [] [(0, .d (.lit (.string a0))), (10, .b r1)] []) (by simp; exact Sub.table (by simp) (by simp)) ?_
 refine Chain.runK [] 1 fun K hK => ?_; simp; refine hK _ _ ?_; clear hK K
 refine Chain.sub (S' := mk 78 [] [(0, .d (.lit (.string a0))), (11, .b (!r1))] []) Sub.tt ?_
 refine Chain.nil ?_
 replace h := isome h; rcases h with ⟨c2, h⟩ | ⟨c2, h⟩
 ·have c2_ : (!r1) = true := c2
  refine AW.condT (b := (!r1)) rfl c2_ ?_
  refine AW.sub (Sub.bool 11 (b := (!r1)) rfl c2_) ?_
  refine AW.sub (S' := mk 78 [] [(0, .d (.lit (.string a0))), (11, .b true)] []) (by simp; exact Sub.table (by simp) (by simp)) ?_
  refine AW.seqR ?_
  refine Chain.runK [] 1 fun K hK => ?_; simp; refine hK _ _ ?_; clear hK K
  refine Chain.sub (S' := mk 78 [] [(2, .b false)] []) Sub.tt ?_
  refine Chain.nil ?_
  refine AW.ret ?_
  cases h
  refine thenQ_pass (by simp) ?_
  exact FinC.ret (by simp) (by simp)
 ·have c2_ : (!r1) = false := Bool.eq_false_iff.2 c2
  refine AW.condF (b := (!r1)) rfl c2_ ?_
  refine AW.sub (Sub.bool 11 (b := (!r1)) rfl c2_) ?_
  refine AW.sub (S' := mk 78 [] [(0, .d (.lit (.string a0))), (11, .b false)] []) (by simp; exact Sub.table (by simp) (by simp)) ?_
  refine AW.skip ?_
  refine thenQ_normal ?_
  refine AW.seqR ?_
  refine Chain.runK [] 1 fun K hK => ?_; simp; refine hK _ _ ?_; clear hK K
  refine Chain.sub (S' := mk 78 [] [(0, .d (.lit (.string a0))), (13, .d (.lit (.string a0)))] []) Sub.tt ?_
  replace h := bsome h; obtain ⟨r3, hr3, h⟩ := h
  refine Chain.callC (d := 14) (p5 N a0 r3 hr3) (by simp) rfl rfl (by simp <;> rfl) (by simp <;> rfl) ent5 (by simp) (.inl ⟨by simp, by simp⟩) ?_
  refine Chain.sub (S' := mk 78 [] [(0, .d (.lit (.string a0))), (13, .d (.lit (.string a0))), (14, .tup [.d (.sl (r3.1.map cS29)), .i r3.2.1, .i r3.2.2])] []) (by simp; exact Sub.table (by simp) (by simp)) ?_
  refine Chain.runK [] 7 fun K hK => ?_; simp; refine hK _ _ ?_; clear hK K
  refine Chain.sub (S' := mk 78 [] [(0, .d (.lit (.string a0))), (3, .d (.sl (r3.1.map cS29))), (4, .i r3.2.1), (5, .i r3.2.2)] []) Sub.tt ?_
  refine Chain.nil ?_
  refine AW.seqR ?_
  refine Chain.runK [] 1 fun K hK => ?_; simp; refine hK _ _ ?_; clear hK K
  refine Chain.sub (S' := mk 78 [] [(0, .d (.lit (.string a0))), (3, .d (.sl (r3.1.map cS29))), (4, .i r3.2.1), (5, .i r3.2.2), (19, .d (.lit (.string a0)))] []) Sub.tt ?_
  replace h := bsome h; obtain ⟨r4, hr4, h⟩ := h
  refine Chain.callC (d := 20) (p6 N a0 r4 hr4) (by simp) rfl rfl (by simp <;> rfl) (by simp <;> rfl) ent6 (by simp) (.inl ⟨by simp, by simp⟩) ?_
  refine Chain.sub (S' := mk 78 [] [(0, .d (.lit (.string a0))), (3, .d (.sl (r3.1.map cS29))), (4, .i r3.2.1), (5, .i r3.2.2), (19, .d (.lit (.string a0))), (20, .tup [.d (.sl (r4.1.map cS29)), .i r4.2.1, .i r4.2.2])] []) (by simp; exact Sub.table (by simp) (by simp)) ?_
  refine Chain.runK [] 7 fun K hK => ?_; simp; refine hK _ _ ?_; clear hK K
  refine Chain.sub (S' := mk 78 [] [(0, .d (.lit (.string a0))), (3, .d (.sl (r3.1.map cS29))), (4, .i r3.2.1), (5, .i r3.2.2), (6, .d (.sl (r4.1.map cS29))), (7, .i r4.2.1), (8, .i r4.2.2)] []) Sub.tt ?_
  refine Chain.nil ?_
  refine AW.seq ?_
  replace h := bsome h; obtain ⟨v8, hj, h⟩ := h
  refine AW.cutR (mk 78 [] [(0, .d (.lit (.string a0))), (3, .d (.sl (r3.1.map cS29))), (37, .b v8)] []) ?_ ?_
  ·clear h; have h := hj; clear hj
   refine Chain.runK [] 4 fun K hK => ?_; simp; refine hK _ _ ?_; clear hK K
   refine Chain.sub (S' := mk 78 [] [(0, .d (.lit (.string a0))), (3, .d (.sl (r3.1.map cS29))), (4, .i r3.2.1), (6, .d (.sl (r4.1.map cS29))), (7, .i r4.2.1), (27, .b (r3.2.2 != r4.2.2))] []) Sub.tt ?_
   replace h := isome h; rcases h with ⟨c9, h⟩ | ⟨c9, h⟩
   ·have c9_ : (r3.2.2 != r4.2.2) = true := c9
    refine Chain.sub (Sub.bool 27 (b := (r3.2.2 != r4.2.2)) rfl c9_) ?_
    refine Chain.sub (S' := mk 78 [] [(0, .d (.lit (.string a0))), (3, .d (.sl (r3.1.map cS29))), (4, .i r3.2.1), (6, .d (.sl (r4.1.map cS29))), (7, .i r4.2.1), (27, .b true)] []) (by simp; exact Sub.table (by simp) (by simp)) ?_
    refine Chain.runK [] 10 fun K hK => ?_; simp; refine hK _ _ ?_; clear hK K
    refine Chain.sub (S' := mk 78 [] [(0, .d (.lit (.string a0))), (3, .d (.sl (r3.1.map cS29))), (37, .b true)] []) Sub.tt ?_
    cases h
    exact Chain.nil Sub.tt
   ·have c9_ : (r3.2.2 != r4.2.2) = false := Bool.eq_false_iff.2 c9
    refine Chain.sub (Sub.bool 27 (b := (r3.2.2 != r4.2.2)) rfl c9_) ?_
    refine Chain.sub (S' := mk 78 [] [(0, .d (.lit (.string a0))), (3, .d (.sl (r3.1.map cS29))), (4, .i r3.2.1), (6, .d (.sl (r4.1.map cS29))), (7, .i r4.2.1), (27, .b false)] []) (by simp; exact Sub.table (by simp) (by simp)) ?_
    refine Chain.runK [] 5 fun K hK => ?_; simp; refine hK _ _ ?_; clear hK K
    refine Chain.sub (S' := mk 78 [] [(0, .d (.lit (.string a0))), (3, .d (.sl (r3.1.map cS29))), (6, .d (.sl (r4.1.map cS29))), (32, .b (r3.2.1 != r4.2.1))] []) Sub.tt ?_
    replace h := isome h; rcases h with ⟨c10, h⟩ | ⟨c10, h⟩
    ·have c10_ : (r3.2.1 != r4.2.1) = true := c10
     refine Chain.sub (Sub.bool 32 (b := (r3.2.1 != r4.2.1)) rfl c10_) ?_
     refine Chain.sub (S' := mk 78 [] [(0, .d (.lit (.string a0))), (3, .d (.sl (r3.1.map cS29))), (6, .d (.sl (r4.1.map cS29))), (32, .b true)] []) (by simp; exact Sub.table (by simp) (by simp)) ?_
     refine Chain.runK [] 5 fun K hK => ?_; simp; refine hK _ _ ?_; clear hK K
     refine Chain.sub (S' := mk 78 [] [(0, .d (.lit (.string a0))), (3, .d (.sl (r3.1.map cS29))), (37, .b true)] []) Sub.tt ?_
     cases h
     exact Chain.nil Sub.tt
    ·have c10_ : (r3.2.1 != r4.2.1) = false := Bool.eq_false_iff.2 c10
     refine Chain.sub (Sub.bool 32 (b := (r3.2.1 != r4.2.1)) rfl c10_) ?_
     refine Chain.sub (S' := mk 78 [] [(0, .d (.lit (.string a0))), (3, .d (.sl (r3.1.map cS29))), (6, .d (.sl (r4.1.map cS29))), (32, .b false)] []) (by simp; exact Sub.table (by simp) (by simp)) ?_
     refine Chain.runK [] 2 fun K hK => ?_; simp; refine hK _ _ ?_; clear hK K
     refine Chain.sub (S' := mk 78 [] [(0, .d (.lit (.string a0))), (3, .d (.sl (r3.1.map cS29))), (32, .b false), (33, .d (.sl (r3.1.map cS29))), (34, .d (.sl (r4.1.map cS29)))] []) Sub.tt ?_
     replace h := bsome h; obtain ⟨r11, hr11, h⟩ := h
     refine Chain.callL (d := 35) (p7 N r3.1 r4.1 r11 hr11) (by simp) rfl rfl (by simp <;> rfl) (by simp <;> rfl) ent7 (by simp <;> rfl) ?_
     refine Chain.sub (S' := mk 78 [] [(0, .d (.lit (.string a0))), (3, .d (.sl (r3.1.map cS29))), (32, .b false), (33, .d (.sl (r3.1.map cS29))), (34, .d (.sl (r4.1.map cS29))), (35, .b r11)] []) (by simp; exact Sub.table (by simp) (by simp)) ?_
     refine Chain.runK [] 2 fun K hK => ?_; simp; refine hK _ _ ?_; clear hK K
     refine Chain.sub (S' := mk 78 [] [(0, .d (.lit (.string a0))), (3, .d (.sl (r3.1.map cS29))), (37, .b (!r11))] []) Sub.tt ?_
     cases h
     exact Chain.nil Sub.tt
  ·clear hj
   replace h := isome h; rcases h with ⟨c12, h⟩ | ⟨c12, h⟩
   ·have c12_ : v8 = true := c12
    refine AW.condT (b := v8) rfl c12_ ?_
    refine AW.sub (Sub.bool 37 (b := v8) rfl c12_) ?_
    refine AW.sub (S' := mk 78 [] [(0, .d (.lit (.string a0))), (3, .d (.sl (r3.1.map cS29))), (37, .b true)] []) (by simp; exact Sub.table (by simp) (by simp)) ?_
    refine AW.seqR ?_
    refine Chain.runK [] 1 fun K hK => ?_; simp; refine hK _ _ ?_; clear hK K
    refine Chain.sub (S' := mk 78 [] [(2, .b false)] []) Sub.tt ?_
    refine Chain.nil ?_
    refine AW.ret ?_
    cases h
    refine thenQ_pass (by simp) ?_
    exact FinC.ret (by simp) (by simp)
   ·have c12_ : v8 = false := Bool.eq_false_iff.2 c12
    refine AW.condF (b := v8) rfl c12_ ?_
    refine AW.sub (Sub.bool 37 (b := v8) rfl c12_) ?_
    refine AW.sub (S' := mk 78 [] [(0, .d (.lit (.string a0))), (3, .d (.sl (r3.1.map cS29))), (37, .b false)] []) (by simp; exact Sub.table (by simp) (by simp)) ?_
    refine AW.skip ?_
    refine thenQ_normal ?_
    replace h := bsome h; obtain ⟨v15, hj, h⟩ := h
    refine AW.cutR (mk 78 [] [(0, .d (.lit (.string a0))), (3, .d (.sl (r3.1.map cS29))), (9, .b v15)] []) ?_ ?_
    ·clear h; have h := hj; clear hj
     refine Chain.runK [] 4 fun K hK => ?_; simp; refine hK _ _ ?_; clear hK K
     refine Chain.sub (S' := mk 78 [] [(0, .d (.lit (.string a0))), (3, .d (.sl (r3.1.map cS29))), (41, .b ((r3.1.length : Int) == 1))] []) Sub.tt ?_
     replace h := isome h; rcases h with ⟨c16, h⟩ | ⟨c16, h⟩
     ·have c16_ : ((r3.1.length : Int) == 1) = true := c16
      refine Chain.sub (Sub.bool 41 (b := ((r3.1.length : Int) == 1)) rfl c16_) ?_
      refine Chain.sub (S' := mk 78 [] [(0, .d (.lit (.string a0))), (3, .d (.sl (r3.1.map cS29))), (41, .b true)] []) (by simp; exact Sub.table (by simp) (by simp)) ?_
      replace h := bsome h; obtain ⟨x17, hx17, h⟩ := h
      obtain ⟨hx17, hx17b, hx17c⟩ := idx_someN (n := 0) hx17
      refine Chain.runK [] 10 fun K hK => ?_; simp [hx17]; refine hK _ _ ?_; clear hK K
      refine Chain.sub (S' := mk 78 [] [(0, .d (.lit (.string a0))), (3, .d (.sl (r3.1.map cS29))), (9, .b ((x17.Text.size : Int) == (a0.size : Int)))] []) Sub.tt ?_
      cases h
      exact Chain.nil Sub.tt
     ·have c16_ : ((r3.1.length : Int) == 1) = false := Bool.eq_false_iff.2 c16
      refine Chain.sub (Sub.bool 41 (b := ((r3.1.length : Int) == 1)) rfl c16_) ?_
      refine Chain.sub (S' := mk 78 [] [(0, .d (.lit (.string a0))), (3, .d (.sl (r3.1.map cS29))), (41, .b false)] []) (by simp; exact Sub.table (by simp) (by simp)) ?_
      refine Chain.runK [] 10 fun K hK => ?_; simp; refine hK _ _ ?_; clear hK K
      refine Chain.sub (S' := mk 78 [] [(0, .d (.lit (.string a0))), (3, .d (.sl (r3.1.map cS29))), (9, .b false)] []) Sub.tt ?_
      cases h
      exact Chain.nil Sub.tt
    ·clear hj
     replace h := bsome h; obtain ⟨v26, hj, h⟩ := h
     refine AW.cutR (mk 78 [] [(2, .b v26)] []) ?_ ?_
     ·clear h; have h := hj; clear hj
      refine Chain.runK [] 1 fun K hK => ?_; simp; refine hK _ _ ?_; clear hK K
      refine Chain.sub (S' := mk 78 [] [(0, .d (.lit (.string a0))), (3, .d (.sl (r3.1.map cS29))), (9, .b v15), (51, .d (.lit (.string a0)))] []) Sub.tt ?_
      replace h := bsome h; obtain ⟨r27, hr27, h⟩ := h
      refine Chain.callL (d := 52) (p8 N a0 r27 hr27) (by simp) rfl rfl (by simp <;> rfl) (by simp <;> rfl) ent8 (by simp <;> rfl) ?_
      refine Chain.sub (S' := mk 78 [] [(0, .d (.lit (.string a0))), (3, .d (.sl (r3.1.map cS29))), (9, .b v15), (51, .d (.lit (.string a0))), (52, .b r27)] []) (by simp; exact Sub.table (by simp) (by simp)) ?_
      refine Chain.runK [] 2 fun K hK => ?_; simp; refine hK _ _ ?_; clear hK K
      refine Chain.sub (S' := mk 78 [] [(0, .d (.lit (.string a0))), (3, .d (.sl (r3.1.map cS29))), (9, .b v15), (52, .b r27), (54, .b v15)] []) Sub.tt ?_
      replace h := isome h; rcases h with ⟨c28, h⟩ | ⟨c28, h⟩
      ·have c28_ : v15 = true := c28
       refine Chain.sub (Sub.bool 9 (b := v15) rfl c28_) ?_
       refine Chain.sub (Sub.bool 54 (b := v15) rfl c28_) ?_
       refine Chain.sub (S' := mk 78 [] [(0, .d (.lit (.string a0))), (3, .d (.sl (r3.1.map cS29))), (9, .b true), (52, .b r27), (54, .b true)] []) (by simp; exact Sub.table (by simp) (by simp)) ?_
       replace h := bsome h; obtain ⟨x29, hx29, h⟩ := h
       obtain ⟨hx29, hx29b, hx29c⟩ := idx_someN (n := 0) hx29
       refine Chain.runK [] 8 fun K hK => ?_; simp [hx29]; refine hK _ _ ?_; clear hK K
       refine Chain.sub (S' := mk 78 [] [(0, .d (.lit (.string a0))), (3, .d (.sl (r3.1.map cS29))), (9, .b true), (62, .b (r27 == (x29.Kind == 1)))] []) Sub.tt ?_
       replace h := isome h; rcases h with ⟨c30, h⟩ | ⟨c30, h⟩
       ·have c30_ : (r27 == (x29.Kind == 1)) = true := c30
        refine Chain.sub (Sub.bool 62 (b := (r27 == (x29.Kind == 1))) rfl c30_) ?_
        refine Chain.sub (S' := mk 78 [] [(0, .d (.lit (.string a0))), (3, .d (.sl (r3.1.map cS29))), (9, .b true), (62, .b true)] []) (by simp; exact Sub.table (by simp) (by simp)) ?_
        refine Chain.runK [] 10 fun K hK => ?_; simp [hx29]; refine hK _ _ ?_; clear hK K
        refine Chain.sub (S' := mk 78 [] [(0, .d (.lit (.string a0))), (62, .b true), (72, .b (x29.Kind != 2))] []) Sub.tt ?_
        replace h := isome h; rcases h with ⟨c31, h⟩ | ⟨c31, h⟩
        ·have c31_ : (x29.Kind != 2) = true := c31
         refine Chain.sub (Sub.bool 72 (b := (x29.Kind != 2)) rfl c31_) ?_
         refine Chain.sub (S' := mk 78 [] [(0, .d (.lit (.string a0))), (62, .b true), (72, .b true)] []) (by simp; exact Sub.table (by simp) (by simp)) ?_
         refine Chain.runK [] 6 fun K hK => ?_; simp; refine hK _ _ ?_; clear hK K
         refine Chain.sub (S' := mk 78 [] [(2, .b true)] []) Sub.tt ?_
         cases h
         exact Chain.nil Sub.tt
        ·have c31_ : (x29.Kind != 2) = false := Bool.eq_false_iff.2 c31
         refine Chain.sub (Sub.bool 72 (b := (x29.Kind != 2)) rfl c31_) ?_
         refine Chain.sub (S' := mk 78 [] [(0, .d (.lit (.string a0))), (62, .b true), (72, .b false)] []) (by simp; exact Sub.table (by simp) (by simp)) ?_
         replace h := bsome h; obtain ⟨r32, hr32, h⟩ := h
         refine Chain.callC (d := 73) (p10 N  r32 hr32) (by simp) rfl rfl (by simp <;> rfl) (by simp <;> rfl) ent10 (by simp) (.inl ⟨by simp, by simp⟩) ?_
         refine Chain.sub (S' := mk 78 [] [(0, .d (.lit (.string a0))), (62, .b true), (72, .b false), (73, .d (.sl (r32.map cS)))] []) (by simp; exact Sub.table (by simp) (by simp)) ?_
         refine Chain.runK [] 1 fun K hK => ?_; simp; refine hK _ _ ?_; clear hK K
         refine Chain.sub (S' := mk 78 [] [(62, .b true), (72, .b false), (73, .d (.sl (r32.map cS))), (74, .d (.lit (.string a0)))] []) Sub.tt ?_
         replace h := bsome h; obtain ⟨r33, hr33, h⟩ := h
         refine Chain.callL (d := 75) (p9 N r32 a0 r33 hr33) (by simp) rfl rfl (by simp <;> rfl) (by simp <;> rfl) ent9 (by simp <;> rfl) ?_
         refine Chain.sub (S' := mk 78 [] [(62, .b true), (72, .b false), (73, .d (.sl (r32.map cS))), (74, .d (.lit (.string a0))), (75, .b r33)] []) (by simp; exact Sub.table (by simp) (by simp)) ?_
         refine Chain.runK [] 3 fun K hK => ?_; simp; refine hK _ _ ?_; clear hK K
         refine Chain.sub (S' := mk 78 [] [(2, .b r33)] []) Sub.tt ?_
         cases h
         exact Chain.nil Sub.tt
       ·have c30_ : (r27 == (x29.Kind == 1)) = false := Bool.eq_false_iff.2 c30
        refine Chain.sub (Sub.bool 62 (b := (r27 == (x29.Kind == 1))) rfl c30_) ?_
        refine Chain.sub (S' := mk 78 [] [(0, .d (.lit (.string a0))), (3, .d (.sl (r3.1.map cS29))), (9, .b true), (62, .b false)] []) (by simp; exact Sub.table (by simp) (by simp)) ?_
        refine Chain.runK [] 16 fun K hK => ?_; simp; refine hK _ _ ?_; clear hK K
        refine Chain.sub (S' := mk 78 [] [(2, .b false)] []) Sub.tt ?_
        cases h
        exact Chain.nil Sub.tt
      ·have c28_ : v15 = false := Bool.eq_false_iff.2 c28
       refine Chain.sub (Sub.bool 9 (b := v15) rfl c28_) ?_
       refine Chain.sub (Sub.bool 54 (b := v15) rfl c28_) ?_
       refine Chain.sub (S' := mk 78 [] [(0, .d (.lit (.string a0))), (3, .d (.sl (r3.1.map cS29))), (9, .b false), (52, .b r27), (54, .b false)] []) (by simp; exact Sub.table (by simp) (by simp)) ?_
       refine Chain.runK [] 8 fun K hK => ?_; simp; refine hK _ _ ?_; clear hK K
       refine Chain.sub (S' := mk 78 [] [(0, .d (.lit (.string a0))), (3, .d (.sl (r3.1.map cS29))), (9, .b false), (62, .b (r27 == false))] []) Sub.tt ?_
       replace h := isome h; rcases h with ⟨c34, h⟩ | ⟨c34, h⟩
       ·have c34_ : (r27 == false) = true := c34
        refine Chain.sub (Sub.bool 62 (b := (r27 == false)) rfl c34_) ?_
        refine Chain.sub (S' := mk 78 [] [(0, .d (.lit (.string a0))), (3, .d (.sl (r3.1.map cS29))), (9, .b false), (62, .b true)] []) (by simp; exact Sub.table (by simp) (by simp)) ?_
        refine Chain.runK [] 16 fun K hK => ?_; simp; refine hK _ _ ?_; clear hK K
        refine Chain.sub (S' := mk 78 [] [(2, .b true)] []) Sub.tt ?_
        cases h
        exact Chain.nil Sub.tt
       ·have c34_ : (r27 == false) = false := Bool.eq_false_iff.2 c34
        refine Chain.sub (Sub.bool 62 (b := (r27 == false)) rfl c34_) ?_
        refine Chain.sub (S' := mk 78 [] [(0, .d (.lit (.string a0))), (3, .d (.sl (r3.1.map cS29))), (9, .b false), (62, .b false)] []) (by simp; exact Sub.table (by simp) (by simp)) ?_
        refine Chain.runK [] 16 fun K hK => ?_; simp; refine hK _ _ ?_; clear hK K
        refine Chain.sub (S' := mk 78 [] [(2, .b false)] []) Sub.tt ?_
        cases h
        exact Chain.nil Sub.tt
     ·clear hj
      refine AW.ret ?_
      cases h
      exact FinC.ret (by simp) (by simp)

end Go.Proofs.YtdiekinmoklonabDoor
