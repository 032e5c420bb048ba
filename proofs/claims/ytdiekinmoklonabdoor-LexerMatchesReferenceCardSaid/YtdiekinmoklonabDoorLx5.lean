/- Functions of the program as functional programs; the code computes them. -/
import Derived.Test.YtdiekinmoklonabDoorLx4
namespace Go.Proofs.YtdiekinmoklonabDoor
open Go.Ab Go.Rp
attribute [-simp] List.all_eq_true Array.all_toList Array.all_eq_true

/-- stemma/stemref3.literal -/
def d26 (N : Nat) (a0 : ByteArray) (a1 : Int) : Option (S29 × Int) :=
 (chkI (a1 + 1)).bind fun v1 =>
 bindO (β := Unit) (ρ := (S29 × Int)) (
  iterN (σ := ((List Int) × Int)) (ρ := (Out Unit (S29 × Int))) (fun ((l36, v37) : ((List Int) × Int)) =>
   if v37 < (a0.size : Int) then (
    (idxB a0 v37).bind fun v109 =>
    bindO (β := Int) (ρ := (((List Int) × Int) ⊕ (Out Unit (S29 × Int)))) (
     if (v109 == 39) then (
      Option.bind (α := Bool) (
       (chkI (v37 + 1)).bind fun v131 =>
       if v131 ≥ (a0.size : Int) then (
        some true
       ) else
       (chkI (v37 + 1)).bind fun v133 =>
       (idxB a0 v133).bind fun v134 =>
       some (v134 != 39)
      ) fun (v130 : Bool) =>
      if v130 = true then (
       if (l36.length : Int) > 24 then (
        some (.ret (.inr (.go ())))
       ) else
       (chkI (v37 + 1)).bind fun v137 =>
       some (.ret (.inr (.ret ((S29.mk 4 (bstr l36) 0 0), v137))))
      ) else
      (chkI (v37 + 1)).bind fun v138 =>
      some (.go v138)
     ) else
     some (.go v37)
    ) fun (v124 : Int) =>
    (idxB a0 v124).bind fun v139 =>
    (appL 1 l36 [v139]).bind fun _l140 =>
    (chkI (v124 + 1)).bind fun v141 =>
    some (.inl ((l36 ++ [v139]), v141))
   ) else
   some (.inr (.go ()))
  ) N (([] : List Int), v1)
 ) fun (_ : Unit) =>
 some ((S29.mk 0 (ByteArray.mk #[]) 0 0), (-1))
set_option maxRecDepth 100000 in
set_option maxHeartbeats 4000000 in
theorem p26 (N : Nat) (a0 : ByteArray) (a1 : Int) (r : (S29 × Int)) (h : d26 N a0 a1 = some r) : FunC Tryd.prog 26 [.d (.lit (.string a0)), .i a1] (.tup [.agg [.i r.1.Kind, .d (.lit (.string r.1.Text)), .i r.1.Number, .i r.1.Offset], .i r.2]) := by
 unfold d26 at h
 refine FunC.enter 49 [(0, .d (.lit (.string a0))), (1, .i a1)] (by simp) Tryd.func26 rfl (of_decide_eq_true rfl) rfl rfl ?_
 refine AW.seqR ?_
 refine Chain.runK [] 2 fun K hK => ?_; simp; refine hK _ _ ?_; clear hK K
 refine Chain.sub (S' := mk 49 [] [(0, .d (.lit (.string a0))), (1, .i a1), (4, .ptr 4 0 0)] [(4, some (.box [.i 0, .d (.lit (.string (ByteArray.mk #[]))), .i 0, .i 0]))]) Sub.tt ?_
 refine Chain.nil ?_
 refine AW.seqR ?_
 refine Chain.runK [] 1 fun K hK => ?_; simp; refine hK _ _ ?_; clear hK K
 refine Chain.sub (S' := mk 49 [] [(0, .d (.lit (.string a0))), (1, .i a1), (4, .ptr 4 0 0), (6, .d (.lit (.slice none 0 0)))] [(4, some (.box [.i 0, .d (.lit (.string (ByteArray.mk #[]))), .i 0, .i 0]))]) Sub.tt ?_
 refine Chain.nil ?_
 refine AW.seq ?_
 refine AW.seqR ?_
 replace h := bsome h; obtain ⟨v1, hv1, h⟩ := h
 have hv1 := chkI_some hv1
 refine Chain.runK [] 3 fun K hK => ?_; simp [hv1]; refine hK _ _ ?_; clear hK K
 refine Chain.sub (S' := mk 49 [] [(0, .d (.lit (.string a0))), (4, .ptr 4 0 0), (6, .d (.lit (.slice none 0 0))), (7, .i v1)] [(4, some (.box [.i 0, .d (.lit (.string (ByteArray.mk #[]))), .i 0, .i 0]))]) Sub.tt ?_
 refine Chain.nil ?_
 refine AW.lastJ (fun (_ : Unit) => mk 49 [] [(4, .ptr 4 0 0)] [(4, some (.box [.i 0, .d (.lit (.string (ByteArray.mk #[]))), .i 0, .i 0]))]) h ?_ ?_ <;> clear h
 ·intro o h
  refine AW.block ?_
  refine AW.iter (fun ((l36, v37) : ((List Int) × Int)) => mk 49 [] [(0, .d (.lit (.string a0))), (4, .ptr 4 0 0), (6, .ref 47 0 l36.length), (7, .i v37)] [(4, some (.box [.i 0, .d (.lit (.string (ByteArray.mk #[]))), .i 0, .i 0])), (47, R5 l36)]) h (Sub.trans (Sub.nilOwn (t := 6) (id := 47) (T := 5) (n := 1) rfl rfl (by decide)) (by simp; exact Sub.table (by simp) (by simp))) ?_
  clear h
  rintro ⟨l36, v37⟩ x h
  dsimp only at h ⊢
  refine AW.seq ?_
  refine AW.seqR ?_
  refine Chain.runK [] 4 fun K hK => ?_; simp; refine hK _ _ ?_; clear hK K
  refine Chain.sub (S' := mk 49 [] [(0, .d (.lit (.string a0))), (4, .ptr 4 0 0), (6, .ref 47 0 l36.length), (7, .i v37), (13, .b (decide (v37 < (a0.size : Int))))] [(4, some (.box [.i 0, .d (.lit (.string (ByteArray.mk #[]))), .i 0, .i 0])), (47, R5 l36)]) Sub.tt ?_
  refine Chain.nil ?_
  replace h := isome h; rcases h with ⟨c108, h⟩ | ⟨c108, h⟩
  ·have c108_ : decide (v37 < (a0.size : Int)) = true := decide_eq_true c108
   refine AW.condT (b := decide (v37 < (a0.size : Int))) rfl c108_ ?_
   refine AW.sub (Sub.bool 13 (b := decide (v37 < (a0.size : Int))) rfl c108_) ?_
   refine AW.sub (S' := mk 49 [] [(0, .d (.lit (.string a0))), (4, .ptr 4 0 0), (6, .ref 47 0 l36.length), (7, .i v37), (13, .b true)] [(4, some (.box [.i 0, .d (.lit (.string (ByteArray.mk #[]))), .i 0, .i 0])), (47, R5 l36)]) (by simp; exact Sub.table (by simp) (by simp)) ?_
   refine AW.skip ?_
   refine thenQ_normal ?_
   refine AW.seq ?_
   refine AW.block ?_
   refine AW.seq ?_
   refine AW.seqR ?_
   replace h := bsome h; obtain ⟨v109, gv109, h⟩ := h
   obtain ⟨bv109, kv109, hv109k, hv109a, hv109b, hv109c⟩ := idxB_some gv109
   refine Chain.runK [] 4 fun K hK => ?_; simp [hv109k, hv109a, hv109b, hv109c]; refine hK _ _ ?_; clear hK K
   refine Chain.sub (S' := mk 49 [] [(0, .d (.lit (.string a0))), (4, .ptr 4 0 0), (6, .ref 47 0 l36.length), (7, .i v37), (19, .b (v109 == 39))] [(4, some (.box [.i 0, .d (.lit (.string (ByteArray.mk #[]))), .i 0, .i 0])), (47, R5 l36)]) Sub.tt ?_
   refine Chain.nil ?_
   refine AW.lastJ (fun (v124 : Int) => mk 49 [] [(0, .d (.lit (.string a0))), (4, .ptr 4 0 0), (6, .ref 47 0 l36.length), (7, .i v124)] [(4, some (.box [.i 0, .d (.lit (.string (ByteArray.mk #[]))), .i 0, .i 0])), (47, R5 l36)]) h ?_ ?_ <;> clear h
   ·intro o h
    replace h := isome h; rcases h with ⟨c125, h⟩ | ⟨c125, h⟩
    ·have c125_ : (v109 == 39) = true := c125
     refine AW.condT (b := (v109 == 39)) rfl c125_ ?_
     refine AW.sub (Sub.bool 19 (b := (v109 == 39)) rfl c125_) ?_
     refine AW.sub (S' := mk 49 [] [(0, .d (.lit (.string a0))), (4, .ptr 4 0 0), (6, .ref 47 0 l36.length), (7, .i v37), (19, .b true)] [(4, some (.box [.i 0, .d (.lit (.string (ByteArray.mk #[]))), .i 0, .i 0])), (47, R5 l36)]) (by simp; exact Sub.table (by simp) (by simp)) ?_
     refine AW.seq ?_
     replace h := bsome h; obtain ⟨v130, hj, h⟩ := h
     refine AW.cutR (mk 49 [] [(0, .d (.lit (.string a0))), (4, .ptr 4 0 0), (6, .ref 47 0 l36.length), (7, .i v37), (31, .b v130)] [(4, some (.box [.i 0, .d (.lit (.string (ByteArray.mk #[]))), .i 0, .i 0])), (47, R5 l36)]) ?_ ?_
     ·clear h; have h := hj; clear hj
      replace h := bsome h; obtain ⟨v131, hv131, h⟩ := h
      have hv131 := chkI_some hv131
      refine Chain.runK [] 6 fun K hK => ?_; simp [hv131]; refine hK _ _ ?_; clear hK K
      refine Chain.sub (S' := mk 49 [] [(0, .d (.lit (.string a0))), (4, .ptr 4 0 0), (6, .ref 47 0 l36.length), (7, .i v37), (25, .b (decide (v131 ≥ (a0.size : Int))))] [(4, some (.box [.i 0, .d (.lit (.string (ByteArray.mk #[]))), .i 0, .i 0])), (47, R5 l36)]) Sub.tt ?_
      replace h := isome h; rcases h with ⟨c132, h⟩ | ⟨c132, h⟩
      ·have c132_ : decide (v131 ≥ (a0.size : Int)) = true := decide_eq_true c132
       refine Chain.sub (Sub.bool 25 (b := decide (v131 ≥ (a0.size : Int))) rfl c132_) ?_
       refine Chain.sub (S' := mk 49 [] [(0, .d (.lit (.string a0))), (4, .ptr 4 0 0), (6, .ref 47 0 l36.length), (7, .i v37), (25, .b true)] [(4, some (.box [.i 0, .d (.lit (.string (ByteArray.mk #[]))), .i 0, .i 0])), (47, R5 l36)]) (by simp; exact Sub.table (by simp) (by simp)) ?_
       refine Chain.runK [] 6 fun K hK => ?_; simp; refine hK _ _ ?_; clear hK K
       refine Chain.sub (S' := mk 49 [] [(0, .d (.lit (.string a0))), (4, .ptr 4 0 0), (6, .ref 47 0 l36.length), (7, .i v37), (26, .tup []), (27, .tup []), (28, .tup []), (29, .tup []), (30, .tup []), (31, .b true)] [(4, some (.box [.i 0, .d (.lit (.string (ByteArray.mk #[]))), .i 0, .i 0])), (47, R5 l36)]) Sub.tt ?_
       cases h
       exact Chain.nil Sub.tt
      ·have c132_ : decide (v131 ≥ (a0.size : Int)) = false := decide_eq_false c132
       refine Chain.sub (Sub.bool 25 (b := decide (v131 ≥ (a0.size : Int))) rfl c132_) ?_
       refine Chain.sub (S' := mk 49 [] [(0, .d (.lit (.string a0))), (4, .ptr 4 0 0), (6, .ref 47 0 l36.length), (7, .i v37), (25, .b false)] [(4, some (.box [.i 0, .d (.lit (.string (ByteArray.mk #[]))), .i 0, .i 0])), (47, R5 l36)]) (by simp; exact Sub.table (by simp) (by simp)) ?_
       replace h := bsome h; obtain ⟨v133, hv133, h⟩ := h
       have hv133 := chkI_some hv133
       replace h := bsome h; obtain ⟨v134, gv134, h⟩ := h
       obtain ⟨bv134, kv134, hv134k, hv134a, hv134b, hv134c⟩ := idxB_some gv134
       refine Chain.runK [] 6 fun K hK => ?_; simp [hv133, hv134k, hv134a, hv134b, hv134c]; refine hK _ _ ?_; clear hK K
       refine Chain.sub (S' := mk 49 [] [(0, .d (.lit (.string a0))), (4, .ptr 4 0 0), (6, .ref 47 0 l36.length), (7, .i v37), (26, .d (.lit (.string a0))), (27, .i v37), (28, .i v133), (29, .d (.lit (.int .u8 v134))), (30, .b (v134 != 39)), (31, .b (v134 != 39))] [(4, some (.box [.i 0, .d (.lit (.string (ByteArray.mk #[]))), .i 0, .i 0])), (47, R5 l36)]) Sub.tt ?_
       cases h
       exact Chain.nil Sub.tt
     ·clear hj
      replace h := isome h; rcases h with ⟨c135, h⟩ | ⟨c135, h⟩
      ·have c135_ : v130 = true := c135
       refine AW.condT (b := v130) rfl c135_ ?_
       refine AW.sub (Sub.bool 31 (b := v130) rfl c135_) ?_
       refine AW.sub (S' := mk 49 [] [(0, .d (.lit (.string a0))), (4, .ptr 4 0 0), (6, .ref 47 0 l36.length), (7, .i v37), (31, .b true)] [(4, some (.box [.i 0, .d (.lit (.string (ByteArray.mk #[]))), .i 0, .i 0])), (47, R5 l36)]) (by simp; exact Sub.table (by simp) (by simp)) ?_
       refine AW.seq ?_
       refine AW.seqR ?_
       refine Chain.runK [] 3 fun K hK => ?_; simp; refine hK _ _ ?_; clear hK K
       refine Chain.sub (S' := mk 49 [] [(4, .ptr 4 0 0), (6, .ref 47 0 l36.length), (7, .i v37), (34, .b (decide ((l36.length : Int) > 24)))] [(4, some (.box [.i 0, .d (.lit (.string (ByteArray.mk #[]))), .i 0, .i 0])), (47, R5 l36)]) Sub.tt ?_
       refine Chain.nil ?_
       replace h := isome h; rcases h with ⟨c136, h⟩ | ⟨c136, h⟩
       ·have c136_ : decide ((l36.length : Int) > 24) = true := decide_eq_true c136
        refine AW.condT (b := decide ((l36.length : Int) > 24)) rfl c136_ ?_
        refine AW.sub (Sub.bool 34 (b := decide ((l36.length : Int) > 24)) rfl c136_) ?_
        refine AW.sub (S' := mk 49 [] [(4, .ptr 4 0 0), (6, .ref 47 0 l36.length), (7, .i v37), (34, .b true)] [(4, some (.box [.i 0, .d (.lit (.string (ByteArray.mk #[]))), .i 0, .i 0])), (47, R5 l36)]) (by simp; exact Sub.table (by simp) (by simp)) ?_
        refine AW.exit ?_
        cases h
        refine thenQ_pass (by simp) ?_
        refine thenQ_pass (by simp) ?_
        refine PostJ.out (by simp) ?_
        rintro rfl
        refine thenQ_pass (by simp) ?_
        refine blockQ.pass (by decide) ?_
        refine thenQ_pass (by simp) ?_
        refine PostI.out (by simp) ?_
        rintro rfl
        refine blockQ.hit ?_
        refine PostJ.next ?_
        exact Sub.tt
       ·have c136_ : decide ((l36.length : Int) > 24) = false := decide_eq_false c136
        refine AW.condF (b := decide ((l36.length : Int) > 24)) rfl c136_ ?_
        refine AW.sub (Sub.bool 34 (b := decide ((l36.length : Int) > 24)) rfl c136_) ?_
        refine AW.sub (S' := mk 49 [] [(4, .ptr 4 0 0), (6, .ref 47 0 l36.length), (7, .i v37), (34, .b false)] [(4, some (.box [.i 0, .d (.lit (.string (ByteArray.mk #[]))), .i 0, .i 0])), (47, R5 l36)]) (by simp; exact Sub.table (by simp) (by simp)) ?_
        refine AW.skip ?_
        refine thenQ_normal ?_
        refine AW.seqR ?_
        refine Chain.runK [] 1 fun K hK => ?_; simp; refine hK _ _ ?_; clear hK K
        refine Chain.sub (S' := mk 49 [] [(4, .ptr 4 0 0), (7, .i v37), (35, .ref 47 0 l36.length)] [(4, some (.box [.i 0, .d (.lit (.string (ByteArray.mk #[]))), .i 0, .i 0])), (47, R5 l36)]) Sub.tt ?_
        refine Chain.sub (Sub.freeze 47 rfl) ?_
        refine Chain.sub (S' := mk 49 [] [(4, .ptr 4 0 0), (7, .i v37), (35, .d (.sl (l36.map (cI .u8))))] [(4, some (.box [.i 0, .d (.lit (.string (ByteArray.mk #[]))), .i 0, .i 0]))]) (by simp; exact Sub.table (by simp) (by simp)) ?_
        refine Chain.pureP (by simp) (pure_b2s l36 ty50 rfl ty9 rfl ty5 rfl rfl) ?_
        refine Chain.sub (S' := mk 49 [] [(4, .ptr 4 0 0), (7, .i v37), (35, .d (.sl (l36.map (cI .u8)))), (36, .d (.lit (.string (bstr l36))))] [(4, some (.box [.i 0, .d (.lit (.string (ByteArray.mk #[]))), .i 0, .i 0]))]) (by simp; exact Sub.table (by simp) (by simp)) ?_
        replace h := bsome h; obtain ⟨v137, hv137, h⟩ := h
        have hv137 := chkI_some hv137
        refine Chain.runK [] 5 fun K hK => ?_; simp [hv137]; refine hK _ _ ?_; clear hK K
        refine Chain.sub (S' := mk 49 [] [(4, .ptr 4 0 0), (5, .i v137)] [(4, some (.box [.i 4, .d (.lit (.string (bstr l36))), .i 0, .i 0]))]) Sub.tt ?_
        refine Chain.nil ?_
        refine AW.ret ?_
        cases h
        refine thenQ_pass (by simp) ?_
        refine PostJ.out (by simp) ?_
        rintro rfl
        refine thenQ_pass (by simp) ?_
        refine blockQ.ret ?_
        refine thenQ_pass (by simp) ?_
        refine PostI.out (by simp) ?_
        rintro rfl
        refine blockQ.ret ?_
        refine PostJ.out (by simp) ?_
        rintro rfl
        refine thenQ_pass (by simp) ?_
        exact FinC.ret (by simp) (by simp)
      ·have c135_ : v130 = false := Bool.eq_false_iff.2 c135
       refine AW.condF (b := v130) rfl c135_ ?_
       refine AW.sub (Sub.bool 31 (b := v130) rfl c135_) ?_
       refine AW.sub (S' := mk 49 [] [(0, .d (.lit (.string a0))), (4, .ptr 4 0 0), (6, .ref 47 0 l36.length), (7, .i v37), (31, .b false)] [(4, some (.box [.i 0, .d (.lit (.string (ByteArray.mk #[]))), .i 0, .i 0])), (47, R5 l36)]) (by simp; exact Sub.table (by simp) (by simp)) ?_
       refine AW.skip ?_
       refine thenQ_normal ?_
       refine AW.region ?_
       replace h := bsome h; obtain ⟨v138, hv138, h⟩ := h
       have hv138 := chkI_some hv138
       refine Chain.runK [] 3 fun K hK => ?_; simp [hv138]; refine hK _ _ ?_; clear hK K
       refine Chain.sub (S' := mk 49 [] [(0, .d (.lit (.string a0))), (4, .ptr 4 0 0), (6, .ref 47 0 l36.length), (7, .i v138)] [(4, some (.box [.i 0, .d (.lit (.string (ByteArray.mk #[]))), .i 0, .i 0])), (47, R5 l36)]) Sub.tt ?_
       refine Chain.nil ?_
       cases h
       refine PostJ.next ?_
       exact Sub.tt
    ·have c125_ : (v109 == 39) = false := Bool.eq_false_iff.2 c125
     refine AW.condF (b := (v109 == 39)) rfl c125_ ?_
     refine AW.sub (Sub.bool 19 (b := (v109 == 39)) rfl c125_) ?_
     refine AW.sub (S' := mk 49 [] [(0, .d (.lit (.string a0))), (4, .ptr 4 0 0), (6, .ref 47 0 l36.length), (7, .i v37), (19, .b false)] [(4, some (.box [.i 0, .d (.lit (.string (ByteArray.mk #[]))), .i 0, .i 0])), (47, R5 l36)]) (by simp; exact Sub.table (by simp) (by simp)) ?_
     refine AW.skip ?_
     cases h
     refine PostJ.next ?_
     exact Sub.tt
   ·rintro v124 h
    refine thenQ_normal ?_
    refine AW.region ?_
    replace h := bsome h; obtain ⟨v139, gv139, h⟩ := h
    obtain ⟨bv139, kv139, hv139k, hv139a, hv139b, hv139c⟩ := idxB_some gv139
    replace h := bsome h; obtain ⟨l140, hl140, h⟩ := h
    obtain ⟨hl140a, hl140⟩ := appL_some hl140
    subst hl140
    try simp only [List.length_cons, List.length_nil, Nat.zero_add, Nat.mul_one] at hl140a
    refine Chain.runK [46] 7 fun K hK => ?_; simp [hv139k, hv139a, hv139b, hv139c, hl140a]; refine hK _ _ ?_; clear hK K
    refine Chain.sub (S' := mk 49 [] [(0, .d (.lit (.string a0))), (4, .ptr 4 0 0), (6, .ref 47 0 ((l36 ++ [v139]).length)), (7, .i v124)] [(4, some (.box [.i 0, .d (.lit (.string (ByteArray.mk #[]))), .i 0, .i 0])), (47, R5 (l36 ++ [v139]))]) Sub.tt ?_
    refine Chain.nil ?_
    refine blockQ.normal ?_
    refine thenQ_normal ?_
    refine AW.region ?_
    replace h := bsome h; obtain ⟨v141, hv141, h⟩ := h
    have hv141 := chkI_some hv141
    refine Chain.runK [] 3 fun K hK => ?_; simp [hv141]; refine hK _ _ ?_; clear hK K
    refine Chain.sub (S' := mk 49 [] [(0, .d (.lit (.string a0))), (4, .ptr 4 0 0), (6, .ref 47 0 ((l36 ++ [v139]).length)), (7, .i v141)] [(4, some (.box [.i 0, .d (.lit (.string (ByteArray.mk #[]))), .i 0, .i 0])), (47, R5 (l36 ++ [v139]))]) Sub.tt ?_
    refine Chain.nil ?_
    cases h
    refine PostI.next ?_
    exact Sub.tt
  ·have c108_ : decide (v37 < (a0.size : Int)) = false := decide_eq_false c108
   refine AW.condF (b := decide (v37 < (a0.size : Int))) rfl c108_ ?_
   refine AW.sub (Sub.bool 13 (b := decide (v37 < (a0.size : Int))) rfl c108_) ?_
   refine AW.sub (S' := mk 49 [] [(0, .d (.lit (.string a0))), (4, .ptr 4 0 0), (6, .ref 47 0 l36.length), (7, .i v37), (13, .b false)] [(4, some (.box [.i 0, .d (.lit (.string (ByteArray.mk #[]))), .i 0, .i 0])), (47, R5 l36)]) (by simp; exact Sub.table (by simp) (by simp)) ?_
   refine AW.exit ?_
   cases h
   refine thenQ_pass (by simp) ?_
   refine PostI.out (by simp) ?_
   rintro rfl
   refine blockQ.hit ?_
   refine PostJ.next ?_
   exact Sub.tt
 ·rintro ⟨⟩ h
  refine thenQ_normal ?_
  refine AW.seqR ?_
  refine Chain.runK [] 3 fun K hK => ?_; simp; refine hK _ _ ?_; clear hK K
  refine Chain.sub (S' := mk 49 [] [(4, .ptr 4 0 0), (5, .i (-1))] [(4, some (.box [.i 0, .d (.lit (.string (ByteArray.mk #[]))), .i 0, .i 0]))]) Sub.tt ?_
  refine Chain.nil ?_
  refine AW.ret ?_
  cases h
  exact FinC.ret (by simp) (by simp)

/-- stemma/stemref3.punct -/
def d27 (_N : Nat) (a0 : ByteArray) (a1 : Int) : Option (S29 × Int) :=
 Option.bind (α := (Int × Bool)) (
  (chkI (a1 + 1)).bind fun v14 =>
  if v14 < (a0.size : Int) then (
   (chkI (a1 + 2)).bind fun v16 =>
   (natI v16 a0.size).bind fun n17 =>
   (natI a1 n17).bind fun n18 =>
   letv (a0.extract n18 n17) fun v19 =>
   if decide (v19 = (ByteArray.mk #[124, 124])) = true then (
    some ((n18 : Int), true)
   ) else
   (chkI ((n18 : Int) + 2)).bind fun v21 =>
   (natI v21 a0.size).bind fun n22 =>
   (natI (n18 : Int) n22).bind fun _ =>
   letv (a0.extract n18 n22) fun v24 =>
   some ((n18 : Int), decide (v24 = (ByteArray.mk #[60, 61])))
  ) else
  some (a1, false)
 ) fun ((v12, v13) : (Int × Bool)) =>
 Option.bind (α := Int) (
  if v13 = true then (
   some 2
  ) else
  some 1
 ) fun (v26 : Int) =>
 (chkI (v12 + v26)).bind fun v28 =>
 (natI v28 a0.size).bind fun n29 =>
 (natI v12 n29).bind fun n30 =>
 letv (a0.extract n30 n29) fun v31 =>
 Option.bind (α := Bool) (
  if decide (v31 = (ByteArray.mk #[124, 124])) = true then (
   some true
  ) else
  if decide (v31 = (ByteArray.mk #[60, 61])) = true then (
   some true
  ) else
  if decide (v31 = (ByteArray.mk #[40])) = true then (
   some true
  ) else
  if decide (v31 = (ByteArray.mk #[41])) = true then (
   some true
  ) else
  if decide (v31 = (ByteArray.mk #[44])) = true then (
   some true
  ) else
  if decide (v31 = (ByteArray.mk #[124])) = true then (
   some true
  ) else
  if decide (v31 = (ByteArray.mk #[43])) = true then (
   some true
  ) else
  if decide (v31 = (ByteArray.mk #[45])) = true then (
   some true
  ) else
  if decide (v31 = (ByteArray.mk #[42])) = true then (
   some true
  ) else
  if decide (v31 = (ByteArray.mk #[61])) = true then (
   some true
  ) else
  if decide (v31 = (ByteArray.mk #[60])) = true then (
   some true
  ) else
  some (decide (v31 = (ByteArray.mk #[36])))
 ) fun (v43 : Bool) =>
 if v43 = true then (
  (chkI ((n30 : Int) + v26)).bind fun v56 =>
  (natI v56 a0.size).bind fun n57 =>
  (natI (n30 : Int) n57).bind fun _ =>
  letv (a0.extract n30 n57) fun v59 =>
  some ((S29.mk 5 v59 0 0), (n57 : Int))
 ) else
 some ((S29.mk 0 (ByteArray.mk #[]) 0 0), (-1))
set_option maxRecDepth 100000 in
set_option maxHeartbeats 4000000 in
theorem p27 (N : Nat) (a0 : ByteArray) (a1 : Int) (r : (S29 × Int)) (h : d27 N a0 a1 = some r) : FunC Tryd.prog 27 [.d (.lit (.string a0)), .i a1] (.tup [.agg [.i r.1.Kind, .d (.lit (.string r.1.Text)), .i r.1.Number, .i r.1.Offset], .i r.2]) := by
 unfold d27 at h
 refine FunC.enter 58 [(0, .d (.lit (.string a0))), (1, .i a1)] (by simp) Tryd.func27 rfl (of_decide_eq_true rfl) rfl rfl ?_
 refine AW.seqR ?_
 refine Chain.runK [] 2 fun K hK => ?_; simp; refine hK _ _ ?_; clear hK K
 refine Chain.sub (S' := mk 58 [] [(0, .d (.lit (.string a0))), (1, .i a1), (4, .ptr 4 0 0)] [(4, some (.box [.i 0, .d (.lit (.string (ByteArray.mk #[]))), .i 0, .i 0]))]) Sub.tt ?_
 refine Chain.nil ?_
 refine AW.seqR ?_
 refine Chain.runK [] 1 fun K hK => ?_; simp; refine hK _ _ ?_; clear hK K
 refine Chain.sub (S' := mk 58 [] [(0, .d (.lit (.string a0))), (1, .i a1), (4, .ptr 4 0 0), (6, .i 1)] [(4, some (.box [.i 0, .d (.lit (.string (ByteArray.mk #[]))), .i 0, .i 0]))]) Sub.tt ?_
 refine Chain.nil ?_
 refine AW.seq ?_
 replace h := bsome h; obtain ⟨⟨v12, v13⟩, hj, h⟩ := h
 dsimp only at h
 refine AW.cutR (mk 58 [] [(0, .d (.lit (.string a0))), (1, .i v12), (4, .ptr 4 0 0), (6, .i 1), (27, .b v13)] [(4, some (.box [.i 0, .d (.lit (.string (ByteArray.mk #[]))), .i 0, .i 0]))]) ?_ ?_
 ·clear h; have h := hj; clear hj
  replace h := bsome h; obtain ⟨v14, hv14, h⟩ := h
  have hv14 := chkI_some hv14
  refine Chain.runK [] 6 fun K hK => ?_; simp [hv14]; refine hK _ _ ?_; clear hK K
  refine Chain.sub (S' := mk 58 [] [(0, .d (.lit (.string a0))), (1, .i a1), (4, .ptr 4 0 0), (6, .i 1), (12, .b (decide (v14 < (a0.size : Int))))] [(4, some (.box [.i 0, .d (.lit (.string (ByteArray.mk #[]))), .i 0, .i 0]))]) Sub.tt ?_
  replace h := isome h; rcases h with ⟨c15, h⟩ | ⟨c15, h⟩
  ·have c15_ : decide (v14 < (a0.size : Int)) = true := decide_eq_true c15
   refine Chain.sub (Sub.bool 12 (b := decide (v14 < (a0.size : Int))) rfl c15_) ?_
   refine Chain.sub (S' := mk 58 [] [(0, .d (.lit (.string a0))), (1, .i a1), (4, .ptr 4 0 0), (6, .i 1), (12, .b true)] [(4, some (.box [.i 0, .d (.lit (.string (ByteArray.mk #[]))), .i 0, .i 0]))]) (by simp; exact Sub.table (by simp) (by simp)) ?_
   replace h := bsome h; obtain ⟨v16, hv16, h⟩ := h
   have hv16 := chkI_some hv16
   replace h := bsome h; obtain ⟨n17, gn17, h⟩ := h
   obtain ⟨hn17a, hn17⟩ := natI_some gn17
   clear gn17
   subst hn17a
   replace h := bsome h; obtain ⟨n18, gn18, h⟩ := h
   obtain ⟨hn18a, hn18⟩ := natI_some gn18
   clear gn18
   subst hn18a
   replace h := lsome h; obtain ⟨v19, hv19, h⟩ := h
   refine Chain.runK [] 7 fun K hK => ?_; simp [hv16, hn17, hn18, hv19]; refine hK _ _ ?_; clear hK K
   refine Chain.sub (S' := mk 58 [] [(0, .d (.lit (.string a0))), (1, .i (n18 : Int)), (4, .ptr 4 0 0), (6, .i 1), (12, .b true), (19, .b (decide (v19 = (ByteArray.mk #[124, 124]))))] [(4, some (.box [.i 0, .d (.lit (.string (ByteArray.mk #[]))), .i 0, .i 0]))]) Sub.tt ?_
   replace h := isome h; rcases h with ⟨c20, h⟩ | ⟨c20, h⟩
   ·have c20_ : decide (v19 = (ByteArray.mk #[124, 124])) = true := c20
    refine Chain.sub (Sub.bool 19 (b := decide (v19 = (ByteArray.mk #[124, 124]))) rfl c20_) ?_
    refine Chain.sub (S' := mk 58 [] [(0, .d (.lit (.string a0))), (1, .i (n18 : Int)), (4, .ptr 4 0 0), (6, .i 1), (12, .b true), (19, .b true)] [(4, some (.box [.i 0, .d (.lit (.string (ByteArray.mk #[]))), .i 0, .i 0]))]) (by simp; exact Sub.table (by simp) (by simp)) ?_
    refine Chain.runK [] 8 fun K hK => ?_; simp; refine hK _ _ ?_; clear hK K
    refine Chain.sub (S' := mk 58 [] [(0, .d (.lit (.string a0))), (1, .i (n18 : Int)), (4, .ptr 4 0 0), (6, .i 1), (27, .b true)] [(4, some (.box [.i 0, .d (.lit (.string (ByteArray.mk #[]))), .i 0, .i 0]))]) Sub.tt ?_
    cases h
    exact Chain.nil Sub.tt
   ·have c20_ : decide (v19 = (ByteArray.mk #[124, 124])) = false := Bool.eq_false_iff.2 c20
    refine Chain.sub (Sub.bool 19 (b := decide (v19 = (ByteArray.mk #[124, 124]))) rfl c20_) ?_
    refine Chain.sub (S' := mk 58 [] [(0, .d (.lit (.string a0))), (1, .i (n18 : Int)), (4, .ptr 4 0 0), (6, .i 1), (12, .b true), (19, .b false)] [(4, some (.box [.i 0, .d (.lit (.string (ByteArray.mk #[]))), .i 0, .i 0]))]) (by simp; exact Sub.table (by simp) (by simp)) ?_
    replace h := bsome h; obtain ⟨v21, hv21, h⟩ := h
    have hv21 := chkI_some hv21
    replace h := bsome h; obtain ⟨n22, gn22, h⟩ := h
    obtain ⟨hn22a, hn22⟩ := natI_some gn22
    clear gn22
    subst hn22a
    replace h := bsome h; obtain ⟨n23, gn23, h⟩ := h
    obtain ⟨hn23a, hn23⟩ := natI_some gn23
    have hn23b : (n18 : Int) ≤ ((n22 : Nat) : Int) := by omega
    replace hn23 : n18 ≤ n22 := by omega
    clear gn23 hn23a
    replace h := lsome h; obtain ⟨v24, hv24, h⟩ := h
    refine Chain.runK [] 8 fun K hK => ?_; simp [hv21, hn22, hn23, hv24]; refine hK _ _ ?_; clear hK K
    refine Chain.sub (S' := mk 58 [] [(0, .d (.lit (.string a0))), (1, .i (n18 : Int)), (4, .ptr 4 0 0), (6, .i 1), (27, .b (decide (v24 = (ByteArray.mk #[60, 61]))))] [(4, some (.box [.i 0, .d (.lit (.string (ByteArray.mk #[]))), .i 0, .i 0]))]) Sub.tt ?_
    cases h
    exact Chain.nil Sub.tt
  ·have c15_ : decide (v14 < (a0.size : Int)) = false := decide_eq_false c15
   refine Chain.sub (Sub.bool 12 (b := decide (v14 < (a0.size : Int))) rfl c15_) ?_
   refine Chain.sub (S' := mk 58 [] [(0, .d (.lit (.string a0))), (1, .i a1), (4, .ptr 4 0 0), (6, .i 1), (12, .b false)] [(4, some (.box [.i 0, .d (.lit (.string (ByteArray.mk #[]))), .i 0, .i 0]))]) (by simp; exact Sub.table (by simp) (by simp)) ?_
   refine Chain.runK [] 15 fun K hK => ?_; simp; refine hK _ _ ?_; clear hK K
   refine Chain.sub (S' := mk 58 [] [(0, .d (.lit (.string a0))), (1, .i a1), (4, .ptr 4 0 0), (6, .i 1), (27, .b false)] [(4, some (.box [.i 0, .d (.lit (.string (ByteArray.mk #[]))), .i 0, .i 0]))]) Sub.tt ?_
   cases h
   exact Chain.nil Sub.tt
 ·clear hj
  refine AW.lastN (fun (v26 : Int) => mk 58 [] [(0, .d (.lit (.string a0))), (1, .i v12), (4, .ptr 4 0 0), (6, .i v26)] [(4, some (.box [.i 0, .d (.lit (.string (ByteArray.mk #[]))), .i 0, .i 0]))]) h ?_ ?_ <;> clear h
  ·intro o h
   replace h := isome h; rcases h with ⟨c27, h⟩ | ⟨c27, h⟩
   ·have c27_ : v13 = true := c27
    refine AW.condT (b := v13) rfl c27_ ?_
    refine AW.sub (Sub.bool 27 (b := v13) rfl c27_) ?_
    refine AW.sub (S' := mk 58 [] [(0, .d (.lit (.string a0))), (1, .i v12), (4, .ptr 4 0 0), (6, .i 1), (27, .b true)] [(4, some (.box [.i 0, .d (.lit (.string (ByteArray.mk #[]))), .i 0, .i 0]))]) (by simp; exact Sub.table (by simp) (by simp)) ?_
    refine AW.region ?_
    refine Chain.runK [] 1 fun K hK => ?_; simp; refine hK _ _ ?_; clear hK K
    refine Chain.sub (S' := mk 58 [] [(0, .d (.lit (.string a0))), (1, .i v12), (4, .ptr 4 0 0), (6, .i 2)] [(4, some (.box [.i 0, .d (.lit (.string (ByteArray.mk #[]))), .i 0, .i 0]))]) Sub.tt ?_
    refine Chain.nil ?_
    cases h
    refine PostN.next ?_
    exact Sub.tt
   ·have c27_ : v13 = false := Bool.eq_false_iff.2 c27
    refine AW.condF (b := v13) rfl c27_ ?_
    refine AW.sub (Sub.bool 27 (b := v13) rfl c27_) ?_
    refine AW.sub (S' := mk 58 [] [(0, .d (.lit (.string a0))), (1, .i v12), (4, .ptr 4 0 0), (6, .i 1), (27, .b false)] [(4, some (.box [.i 0, .d (.lit (.string (ByteArray.mk #[]))), .i 0, .i 0]))]) (by simp; exact Sub.table (by simp) (by simp)) ?_
    refine AW.skip ?_
    cases h
    refine PostN.next ?_
    exact Sub.tt
  ·rintro v26 h
   refine thenQ_normal ?_
   refine AW.seq ?_
   refine AW.seqR ?_
   replace h := bsome h; obtain ⟨v28, hv28, h⟩ := h
   have hv28 := chkI_some hv28
   replace h := bsome h; obtain ⟨n29, gn29, h⟩ := h
   obtain ⟨hn29a, hn29⟩ := natI_some gn29
   clear gn29
   subst hn29a
   replace h := bsome h; obtain ⟨n30, gn30, h⟩ := h
   obtain ⟨hn30a, hn30⟩ := natI_some gn30
   clear gn30
   subst hn30a
   replace h := lsome h; obtain ⟨v31, hv31, h⟩ := h
   refine Chain.runK [] 6 fun K hK => ?_; simp [hv28, hn29, hn30, hv31]; refine hK _ _ ?_; clear hK K
   refine Chain.sub (S' := mk 58 [] [(0, .d (.lit (.string a0))), (1, .i (n30 : Int)), (4, .ptr 4 0 0), (6, .i v26), (33, .d (.lit (.string v31)))] [(4, some (.box [.i 0, .d (.lit (.string (ByteArray.mk #[]))), .i 0, .i 0]))]) Sub.tt ?_
   refine Chain.nil ?_
   refine AW.block ?_
   refine AW.seq ?_
   refine AW.seqR ?_
   refine Chain.runK [] 2 fun K hK => ?_; simp; refine hK _ _ ?_; clear hK K
   refine Chain.sub (S' := mk 58 [] [(0, .d (.lit (.string a0))), (1, .i (n30 : Int)), (4, .ptr 4 0 0), (6, .i v26), (33, .d (.lit (.string v31))), (34, .b (decide (v31 = (ByteArray.mk #[124, 124]))))] [(4, some (.box [.i 0, .d (.lit (.string (ByteArray.mk #[]))), .i 0, .i 0]))]) Sub.tt ?_
   refine Chain.nil ?_
   refine AW.lastN (fun (v43 : Bool) => mk 58 [] [(0, .d (.lit (.string a0))), (1, .i (n30 : Int)), (4, .ptr 4 0 0), (6, .i v26), (34, .b v43)] [(4, some (.box [.i 0, .d (.lit (.string (ByteArray.mk #[]))), .i 0, .i 0]))]) h ?_ ?_ <;> clear h
   ·intro o h
    replace h := isome h; rcases h with ⟨c44, h⟩ | ⟨c44, h⟩
    ·have c44_ : decide (v31 = (ByteArray.mk #[124, 124])) = true := c44
     refine AW.condT (b := decide (v31 = (ByteArray.mk #[124, 124]))) rfl c44_ ?_
     refine AW.sub (Sub.bool 34 (b := decide (v31 = (ByteArray.mk #[124, 124]))) rfl c44_) ?_
     refine AW.sub (S' := mk 58 [] [(0, .d (.lit (.string a0))), (1, .i (n30 : Int)), (4, .ptr 4 0 0), (6, .i v26), (33, .d (.lit (.string v31))), (34, .b true)] [(4, some (.box [.i 0, .d (.lit (.string (ByteArray.mk #[]))), .i 0, .i 0]))]) (by simp; exact Sub.table (by simp) (by simp)) ?_
     refine AW.skip ?_
     cases h
     refine PostN.next ?_
     exact Sub.tt
    ·have c44_ : decide (v31 = (ByteArray.mk #[124, 124])) = false := Bool.eq_false_iff.2 c44
     refine AW.condF (b := decide (v31 = (ByteArray.mk #[124, 124]))) rfl c44_ ?_
     refine AW.sub (Sub.bool 34 (b := decide (v31 = (ByteArray.mk #[124, 124]))) rfl c44_) ?_
     refine AW.sub (S' := mk 58 [] [(0, .d (.lit (.string a0))), (1, .i (n30 : Int)), (4, .ptr 4 0 0), (6, .i v26), (33, .d (.lit (.string v31))), (34, .b false)] [(4, some (.box [.i 0, .d (.lit (.string (ByteArray.mk #[]))), .i 0, .i 0]))]) (by simp; exact Sub.table (by simp) (by simp)) ?_
     refine AW.seqR ?_
     refine Chain.runK [] 2 fun K hK => ?_; simp; refine hK _ _ ?_; clear hK K
     refine Chain.sub (S' := mk 58 [] [(0, .d (.lit (.string a0))), (1, .i (n30 : Int)), (4, .ptr 4 0 0), (6, .i v26), (33, .d (.lit (.string v31))), (34, .b (decide (v31 = (ByteArray.mk #[60, 61]))))] [(4, some (.box [.i 0, .d (.lit (.string (ByteArray.mk #[]))), .i 0, .i 0]))]) Sub.tt ?_
     refine Chain.nil ?_
     replace h := isome h; rcases h with ⟨c45, h⟩ | ⟨c45, h⟩
     ·have c45_ : decide (v31 = (ByteArray.mk #[60, 61])) = true := c45
      refine AW.condT (b := decide (v31 = (ByteArray.mk #[60, 61]))) rfl c45_ ?_
      refine AW.sub (Sub.bool 34 (b := decide (v31 = (ByteArray.mk #[60, 61]))) rfl c45_) ?_
      refine AW.sub (S' := mk 58 [] [(0, .d (.lit (.string a0))), (1, .i (n30 : Int)), (4, .ptr 4 0 0), (6, .i v26), (33, .d (.lit (.string v31))), (34, .b true)] [(4, some (.box [.i 0, .d (.lit (.string (ByteArray.mk #[]))), .i 0, .i 0]))]) (by simp; exact Sub.table (by simp) (by simp)) ?_
      refine AW.skip ?_
      cases h
      refine PostN.next ?_
      exact Sub.tt
     ·have c45_ : decide (v31 = (ByteArray.mk #[60, 61])) = false := Bool.eq_false_iff.2 c45
      refine AW.condF (b := decide (v31 = (ByteArray.mk #[60, 61]))) rfl c45_ ?_
      refine AW.sub (Sub.bool 34 (b := decide (v31 = (ByteArray.mk #[60, 61]))) rfl c45_) ?_
      refine AW.sub (S' := mk 58 [] [(0, .d (.lit (.string a0))), (1, .i (n30 : Int)), (4, .ptr 4 0 0), (6, .i v26), (33, .d (.lit (.string v31))), (34, .b false)] [(4, some (.box [.i 0, .d (.lit (.string (ByteArray.mk #[]))), .i 0, .i 0]))]) (by simp; exact Sub.table (by simp) (by simp)) ?_
      refine AW.seqR ?_
      refine Chain.runK [] 2 fun K hK => ?_; simp; refine hK _ _ ?_; clear hK K
      refine Chain.sub (S' := mk 58 [] [(0, .d (.lit (.string a0))), (1, .i (n30 : Int)), (4, .ptr 4 0 0), (6, .i v26), (33, .d (.lit (.string v31))), (34, .b (decide (v31 = (ByteArray.mk #[40]))))] [(4, some (.box [.i 0, .d (.lit (.string (ByteArray.mk #[]))), .i 0, .i 0]))]) Sub.tt ?_
      refine Chain.nil ?_
      replace h := isome h; rcases h with ⟨c46, h⟩ | ⟨c46, h⟩
      ·have c46_ : decide (v31 = (ByteArray.mk #[40])) = true := c46
       refine AW.condT (b := decide (v31 = (ByteArray.mk #[40]))) rfl c46_ ?_
       refine AW.sub (Sub.bool 34 (b := decide (v31 = (ByteArray.mk #[40]))) rfl c46_) ?_
       refine AW.sub (S' := mk 58 [] [(0, .d (.lit (.string a0))), (1, .i (n30 : Int)), (4, .ptr 4 0 0), (6, .i v26), (33, .d (.lit (.string v31))), (34, .b true)] [(4, some (.box [.i 0, .d (.lit (.string (ByteArray.mk #[]))), .i 0, .i 0]))]) (by simp; exact Sub.table (by simp) (by simp)) ?_
       refine AW.skip ?_
       cases h
       refine PostN.next ?_
       exact Sub.tt
      ·have c46_ : decide (v31 = (ByteArray.mk #[40])) = false := Bool.eq_false_iff.2 c46
       refine AW.condF (b := decide (v31 = (ByteArray.mk #[40]))) rfl c46_ ?_
       refine AW.sub (Sub.bool 34 (b := decide (v31 = (ByteArray.mk #[40]))) rfl c46_) ?_
       refine AW.sub (S' := mk 58 [] [(0, .d (.lit (.string a0))), (1, .i (n30 : Int)), (4, .ptr 4 0 0), (6, .i v26), (33, .d (.lit (.string v31))), (34, .b false)] [(4, some (.box [.i 0, .d (.lit (.string (ByteArray.mk #[]))), .i 0, .i 0]))]) (by simp; exact Sub.table (by simp) (by simp)) ?_
       refine AW.seqR ?_
       refine Chain.runK [] 2 fun K hK => ?_; simp; refine hK _ _ ?_; clear hK K
       refine Chain.sub (S' := mk 58 [] [(0, .d (.lit (.string a0))), (1, .i (n30 : Int)), (4, .ptr 4 0 0), (6, .i v26), (33, .d (.lit (.string v31))), (34, .b (decide (v31 = (ByteArray.mk #[41]))))] [(4, some (.box [.i 0, .d (.lit (.string (ByteArray.mk #[]))), .i 0, .i 0]))]) Sub.tt ?_
       refine Chain.nil ?_
       replace h := isome h; rcases h with ⟨c47, h⟩ | ⟨c47, h⟩
       ·have c47_ : decide (v31 = (ByteArray.mk #[41])) = true := c47
        refine AW.condT (b := decide (v31 = (ByteArray.mk #[41]))) rfl c47_ ?_
        refine AW.sub (Sub.bool 34 (b := decide (v31 = (ByteArray.mk #[41]))) rfl c47_) ?_
        refine AW.sub (S' := mk 58 [] [(0, .d (.lit (.string a0))), (1, .i (n30 : Int)), (4, .ptr 4 0 0), (6, .i v26), (33, .d (.lit (.string v31))), (34, .b true)] [(4, some (.box [.i 0, .d (.lit (.string (ByteArray.mk #[]))), .i 0, .i 0]))]) (by simp; exact Sub.table (by simp) (by simp)) ?_
        refine AW.skip ?_
        cases h
        refine PostN.next ?_
        exact Sub.tt
       ·have c47_ : decide (v31 = (ByteArray.mk #[41])) = false := Bool.eq_false_iff.2 c47
        refine AW.condF (b := decide (v31 = (ByteArray.mk #[41]))) rfl c47_ ?_
        refine AW.sub (Sub.bool 34 (b := decide (v31 = (ByteArray.mk #[41]))) rfl c47_) ?_
        refine AW.sub (S' := mk 58 [] [(0, .d (.lit (.string a0))), (1, .i (n30 : Int)), (4, .ptr 4 0 0), (6, .i v26), (33, .d (.lit (.string v31))), (34, .b false)] [(4, some (.box [.i 0, .d (.lit (.string (ByteArray.mk #[]))), .i 0, .i 0]))]) (by simp; exact Sub.table (by simp) (by simp)) ?_
        refine AW.seqR ?_
        refine Chain.runK [] 2 fun K hK => ?_; simp; refine hK _ _ ?_; clear hK K
        refine Chain.sub (S' := mk 58 [] [(0, .d (.lit (.string a0))), (1, .i (n30 : Int)), (4, .ptr 4 0 0), (6, .i v26), (33, .d (.lit (.string v31))), (34, .b (decide (v31 = (ByteArray.mk #[44]))))] [(4, some (.box [.i 0, .d (.lit (.string (ByteArray.mk #[]))), .i 0, .i 0]))]) Sub.tt ?_
        refine Chain.nil ?_
        replace h := isome h; rcases h with ⟨c48, h⟩ | ⟨c48, h⟩
        ·have c48_ : decide (v31 = (ByteArray.mk #[44])) = true := c48
         refine AW.condT (b := decide (v31 = (ByteArray.mk #[44]))) rfl c48_ ?_
         refine AW.sub (Sub.bool 34 (b := decide (v31 = (ByteArray.mk #[44]))) rfl c48_) ?_
         refine AW.sub (S' := mk 58 [] [(0, .d (.lit (.string a0))), (1, .i (n30 : Int)), (4, .ptr 4 0 0), (6, .i v26), (33, .d (.lit (.string v31))), (34, .b true)] [(4, some (.box [.i 0, .d (.lit (.string (ByteArray.mk #[]))), .i 0, .i 0]))]) (by simp; exact Sub.table (by simp) (by simp)) ?_
         refine AW.skip ?_
         cases h
         refine PostN.next ?_
         exact Sub.tt
        ·have c48_ : decide (v31 = (ByteArray.mk #[44])) = false := Bool.eq_false_iff.2 c48
         refine AW.condF (b := decide (v31 = (ByteArray.mk #[44]))) rfl c48_ ?_
         refine AW.sub (Sub.bool 34 (b := decide (v31 = (ByteArray.mk #[44]))) rfl c48_) ?_
         refine AW.sub (S' := mk 58 [] [(0, .d (.lit (.string a0))), (1, .i (n30 : Int)), (4, .ptr 4 0 0), (6, .i v26), (33, .d (.lit (.string v31))), (34, .b false)] [(4, some (.box [.i 0, .d (.lit (.string (ByteArray.mk #[]))), .i 0, .i 0]))]) (by simp; exact Sub.table (by simp) (by simp)) ?_
         refine AW.seqR ?_
         refine Chain.runK [] 2 fun K hK => ?_; simp; refine hK _ _ ?_; clear hK K
         refine Chain.sub (S' := mk 58 [] [(0, .d (.lit (.string a0))), (1, .i (n30 : Int)), (4, .ptr 4 0 0), (6, .i v26), (33, .d (.lit (.string v31))), (34, .b (decide (v31 = (ByteArray.mk #[124]))))] [(4, some (.box [.i 0, .d (.lit (.string (ByteArray.mk #[]))), .i 0, .i 0]))]) Sub.tt ?_
         refine Chain.nil ?_
         replace h := isome h; rcases h with ⟨c49, h⟩ | ⟨c49, h⟩
         ·have c49_ : decide (v31 = (ByteArray.mk #[124])) = true := c49
          refine AW.condT (b := decide (v31 = (ByteArray.mk #[124]))) rfl c49_ ?_
          refine AW.sub (Sub.bool 34 (b := decide (v31 = (ByteArray.mk #[124]))) rfl c49_) ?_
          refine AW.sub (S' := mk 58 [] [(0, .d (.lit (.string a0))), (1, .i (n30 : Int)), (4, .ptr 4 0 0), (6, .i v26), (33, .d (.lit (.string v31))), (34, .b true)] [(4, some (.box [.i 0, .d (.lit (.string (ByteArray.mk #[]))), .i 0, .i 0]))]) (by simp; exact Sub.table (by simp) (by simp)) ?_
          refine AW.skip ?_
          cases h
          refine PostN.next ?_
          exact Sub.tt
         ·have c49_ : decide (v31 = (ByteArray.mk #[124])) = false := Bool.eq_false_iff.2 c49
          refine AW.condF (b := decide (v31 = (ByteArray.mk #[124]))) rfl c49_ ?_
          refine AW.sub (Sub.bool 34 (b := decide (v31 = (ByteArray.mk #[124]))) rfl c49_) ?_
          refine AW.sub (S' := mk 58 [] [(0, .d (.lit (.string a0))), (1, .i (n30 : Int)), (4, .ptr 4 0 0), (6, .i v26), (33, .d (.lit (.string v31))), (34, .b false)] [(4, some (.box [.i 0, .d (.lit (.string (ByteArray.mk #[]))), .i 0, .i 0]))]) (by simp; exact Sub.table (by simp) (by simp)) ?_
          refine AW.seqR ?_
          refine Chain.runK [] 2 fun K hK => ?_; simp; refine hK _ _ ?_; clear hK K
          refine Chain.sub (S' := mk 58 [] [(0, .d (.lit (.string a0))), (1, .i (n30 : Int)), (4, .ptr 4 0 0), (6, .i v26), (33, .d (.lit (.string v31))), (34, .b (decide (v31 = (ByteArray.mk #[43]))))] [(4, some (.box [.i 0, .d (.lit (.string (ByteArray.mk #[]))), .i 0, .i 0]))]) Sub.tt ?_
          refine Chain.nil ?_
          replace h := isome h; rcases h with ⟨c50, h⟩ | ⟨c50, h⟩
          ·have c50_ : decide (v31 = (ByteArray.mk #[43])) = true := c50
           refine AW.condT (b := decide (v31 = (ByteArray.mk #[43]))) rfl c50_ ?_
           refine AW.sub (Sub.bool 34 (b := decide (v31 = (ByteArray.mk #[43]))) rfl c50_) ?_
           refine AW.sub (S' := mk 58 [] [(0, .d (.lit (.string a0))), (1, .i (n30 : Int)), (4, .ptr 4 0 0), (6, .i v26), (33, .d (.lit (.string v31))), (34, .b true)] [(4, some (.box [.i 0, .d (.lit (.string (ByteArray.mk #[]))), .i 0, .i 0]))]) (by simp; exact Sub.table (by simp) (by simp)) ?_
           refine AW.skip ?_
           cases h
           refine PostN.next ?_
           exact Sub.tt
          ·have c50_ : decide (v31 = (ByteArray.mk #[43])) = false := Bool.eq_false_iff.2 c50
           refine AW.condF (b := decide (v31 = (ByteArray.mk #[43]))) rfl c50_ ?_
           refine AW.sub (Sub.bool 34 (b := decide (v31 = (ByteArray.mk #[43]))) rfl c50_) ?_
           refine AW.sub (S' := mk 58 [] [(0, .d (.lit (.string a0))), (1, .i (n30 : Int)), (4, .ptr 4 0 0), (6, .i v26), (33, .d (.lit (.string v31))), (34, .b false)] [(4, some (.box [.i 0, .d (.lit (.string (ByteArray.mk #[]))), .i 0, .i 0]))]) (by simp; exact Sub.table (by simp) (by simp)) ?_
           refine AW.seqR ?_
           refine Chain.runK [] 2 fun K hK => ?_; simp; refine hK _ _ ?_; clear hK K
           refine Chain.sub (S' := mk 58 [] [(0, .d (.lit (.string a0))), (1, .i (n30 : Int)), (4, .ptr 4 0 0), (6, .i v26), (33, .d (.lit (.string v31))), (34, .b (decide (v31 = (ByteArray.mk #[45]))))] [(4, some (.box [.i 0, .d (.lit (.string (ByteArray.mk #[]))), .i 0, .i 0]))]) Sub.tt ?_
           refine Chain.nil ?_
           replace h := isome h; rcases h with ⟨c51, h⟩ | ⟨c51, h⟩
           ·have c51_ : decide (v31 = (ByteArray.mk #[45])) = true := c51
            refine AW.condT (b := decide (v31 = (ByteArray.mk #[45]))) rfl c51_ ?_
            refine AW.sub (Sub.bool 34 (b := decide (v31 = (ByteArray.mk #[45]))) rfl c51_) ?_
            refine AW.sub (S' := mk 58 [] [(0, .d (.lit (.string a0))), (1, .i (n30 : Int)), (4, .ptr 4 0 0), (6, .i v26), (33, .d (.lit (.string v31))), (34, .b true)] [(4, some (.box [.i 0, .d (.lit (.string (ByteArray.mk #[]))), .i 0, .i 0]))]) (by simp; exact Sub.table (by simp) (by simp)) ?_
            refine AW.skip ?_
            cases h
            refine PostN.next ?_
            exact Sub.tt
           ·have c51_ : decide (v31 = (ByteArray.mk #[45])) = false := Bool.eq_false_iff.2 c51
            refine AW.condF (b := decide (v31 = (ByteArray.mk #[45]))) rfl c51_ ?_
            refine AW.sub (Sub.bool 34 (b := decide (v31 = (ByteArray.mk #[45]))) rfl c51_) ?_
            refine AW.sub (S' := mk 58 [] [(0, .d (.lit (.string a0))), (1, .i (n30 : Int)), (4, .ptr 4 0 0), (6, .i v26), (33, .d (.lit (.string v31))), (34, .b false)] [(4, some (.box [.i 0, .d (.lit (.string (ByteArray.mk #[]))), .i 0, .i 0]))]) (by simp; exact Sub.table (by simp) (by simp)) ?_
            refine AW.seqR ?_
            refine Chain.runK [] 2 fun K hK => ?_; simp; refine hK _ _ ?_; clear hK K
            refine Chain.sub (S' := mk 58 [] [(0, .d (.lit (.string a0))), (1, .i (n30 : Int)), (4, .ptr 4 0 0), (6, .i v26), (33, .d (.lit (.string v31))), (34, .b (decide (v31 = (ByteArray.mk #[42]))))] [(4, some (.box [.i 0, .d (.lit (.string (ByteArray.mk #[]))), .i 0, .i 0]))]) Sub.tt ?_
            refine Chain.nil ?_
            replace h := isome h; rcases h with ⟨c52, h⟩ | ⟨c52, h⟩
            ·have c52_ : decide (v31 = (ByteArray.mk #[42])) = true := c52
             refine AW.condT (b := decide (v31 = (ByteArray.mk #[42]))) rfl c52_ ?_
             refine AW.sub (Sub.bool 34 (b := decide (v31 = (ByteArray.mk #[42]))) rfl c52_) ?_
             refine AW.sub (S' := mk 58 [] [(0, .d (.lit (.string a0))), (1, .i (n30 : Int)), (4, .ptr 4 0 0), (6, .i v26), (33, .d (.lit (.string v31))), (34, .b true)] [(4, some (.box [.i 0, .d (.lit (.string (ByteArray.mk #[]))), .i 0, .i 0]))]) (by simp; exact Sub.table (by simp) (by simp)) ?_
             refine AW.skip ?_
             cases h
             refine PostN.next ?_
             exact Sub.tt
            ·have c52_ : decide (v31 = (ByteArray.mk #[42])) = false := Bool.eq_false_iff.2 c52
             refine AW.condF (b := decide (v31 = (ByteArray.mk #[42]))) rfl c52_ ?_
             refine AW.sub (Sub.bool 34 (b := decide (v31 = (ByteArray.mk #[42]))) rfl c52_) ?_
             refine AW.sub (S' := mk 58 [] [(0, .d (.lit (.string a0))), (1, .i (n30 : Int)), (4, .ptr 4 0 0), (6, .i v26), (33, .d (.lit (.string v31))), (34, .b false)] [(4, some (.box [.i 0, .d (.lit (.string (ByteArray.mk #[]))), .i 0, .i 0]))]) (by simp; exact Sub.table (by simp) (by simp)) ?_
             refine AW.seqR ?_
             refine Chain.runK [] 2 fun K hK => ?_; simp; refine hK _ _ ?_; clear hK K
             refine Chain.sub (S' := mk 58 [] [(0, .d (.lit (.string a0))), (1, .i (n30 : Int)), (4, .ptr 4 0 0), (6, .i v26), (33, .d (.lit (.string v31))), (34, .b (decide (v31 = (ByteArray.mk #[61]))))] [(4, some (.box [.i 0, .d (.lit (.string (ByteArray.mk #[]))), .i 0, .i 0]))]) Sub.tt ?_
             refine Chain.nil ?_
             replace h := isome h; rcases h with ⟨c53, h⟩ | ⟨c53, h⟩
             ·have c53_ : decide (v31 = (ByteArray.mk #[61])) = true := c53
              refine AW.condT (b := decide (v31 = (ByteArray.mk #[61]))) rfl c53_ ?_
              refine AW.sub (Sub.bool 34 (b := decide (v31 = (ByteArray.mk #[61]))) rfl c53_) ?_
              refine AW.sub (S' := mk 58 [] [(0, .d (.lit (.string a0))), (1, .i (n30 : Int)), (4, .ptr 4 0 0), (6, .i v26), (33, .d (.lit (.string v31))), (34, .b true)] [(4, some (.box [.i 0, .d (.lit (.string (ByteArray.mk #[]))), .i 0, .i 0]))]) (by simp; exact Sub.table (by simp) (by simp)) ?_
              refine AW.skip ?_
              cases h
              refine PostN.next ?_
              exact Sub.tt
             ·have c53_ : decide (v31 = (ByteArray.mk #[61])) = false := Bool.eq_false_iff.2 c53
              refine AW.condF (b := decide (v31 = (ByteArray.mk #[61]))) rfl c53_ ?_
              refine AW.sub (Sub.bool 34 (b := decide (v31 = (ByteArray.mk #[61]))) rfl c53_) ?_
              refine AW.sub (S' := mk 58 [] [(0, .d (.lit (.string a0))), (1, .i (n30 : Int)), (4, .ptr 4 0 0), (6, .i v26), (33, .d (.lit (.string v31))), (34, .b false)] [(4, some (.box [.i 0, .d (.lit (.string (ByteArray.mk #[]))), .i 0, .i 0]))]) (by simp; exact Sub.table (by simp) (by simp)) ?_
              refine AW.seqR ?_
              refine Chain.runK [] 2 fun K hK => ?_; simp; refine hK _ _ ?_; clear hK K
              refine Chain.sub (S' := mk 58 [] [(0, .d (.lit (.string a0))), (1, .i (n30 : Int)), (4, .ptr 4 0 0), (6, .i v26), (33, .d (.lit (.string v31))), (34, .b (decide (v31 = (ByteArray.mk #[60]))))] [(4, some (.box [.i 0, .d (.lit (.string (ByteArray.mk #[]))), .i 0, .i 0]))]) Sub.tt ?_
              refine Chain.nil ?_
              replace h := isome h; rcases h with ⟨c54, h⟩ | ⟨c54, h⟩
              ·have c54_ : decide (v31 = (ByteArray.mk #[60])) = true := c54
               refine AW.condT (b := decide (v31 = (ByteArray.mk #[60]))) rfl c54_ ?_
               refine AW.sub (Sub.bool 34 (b := decide (v31 = (ByteArray.mk #[60]))) rfl c54_) ?_
               refine AW.sub (S' := mk 58 [] [(0, .d (.lit (.string a0))), (1, .i (n30 : Int)), (4, .ptr 4 0 0), (6, .i v26), (33, .d (.lit (.string v31))), (34, .b true)] [(4, some (.box [.i 0, .d (.lit (.string (ByteArray.mk #[]))), .i 0, .i 0]))]) (by simp; exact Sub.table (by simp) (by simp)) ?_
               refine AW.skip ?_
               cases h
               refine PostN.next ?_
               exact Sub.tt
              ·have c54_ : decide (v31 = (ByteArray.mk #[60])) = false := Bool.eq_false_iff.2 c54
               refine AW.condF (b := decide (v31 = (ByteArray.mk #[60]))) rfl c54_ ?_
               refine AW.sub (Sub.bool 34 (b := decide (v31 = (ByteArray.mk #[60]))) rfl c54_) ?_
               refine AW.sub (S' := mk 58 [] [(0, .d (.lit (.string a0))), (1, .i (n30 : Int)), (4, .ptr 4 0 0), (6, .i v26), (33, .d (.lit (.string v31))), (34, .b false)] [(4, some (.box [.i 0, .d (.lit (.string (ByteArray.mk #[]))), .i 0, .i 0]))]) (by simp; exact Sub.table (by simp) (by simp)) ?_
               refine AW.region ?_
               refine Chain.runK [] 2 fun K hK => ?_; simp; refine hK _ _ ?_; clear hK K
               refine Chain.sub (S' := mk 58 [] [(0, .d (.lit (.string a0))), (1, .i (n30 : Int)), (4, .ptr 4 0 0), (6, .i v26), (34, .b (decide (v31 = (ByteArray.mk #[36]))))] [(4, some (.box [.i 0, .d (.lit (.string (ByteArray.mk #[]))), .i 0, .i 0]))]) Sub.tt ?_
               refine Chain.nil ?_
               cases h
               refine PostN.next ?_
               exact Sub.tt
   ·rintro v43 h
    refine thenQ_normal ?_
    replace h := isome h; rcases h with ⟨c55, h⟩ | ⟨c55, h⟩
    ·have c55_ : v43 = true := c55
     refine AW.condT (b := v43) rfl c55_ ?_
     refine AW.sub (Sub.bool 34 (b := v43) rfl c55_) ?_
     refine AW.sub (S' := mk 58 [] [(0, .d (.lit (.string a0))), (1, .i (n30 : Int)), (4, .ptr 4 0 0), (6, .i v26), (34, .b true)] [(4, some (.box [.i 0, .d (.lit (.string (ByteArray.mk #[]))), .i 0, .i 0]))]) (by simp; exact Sub.table (by simp) (by simp)) ?_
     refine AW.seqR ?_
     replace h := bsome h; obtain ⟨v56, hv56, h⟩ := h
     have hv56 := chkI_some hv56
     replace h := bsome h; obtain ⟨n57, gn57, h⟩ := h
     obtain ⟨hn57a, hn57⟩ := natI_some gn57
     clear gn57
     subst hn57a
     replace h := bsome h; obtain ⟨n58, gn58, h⟩ := h
     obtain ⟨hn58a, hn58⟩ := natI_some gn58
     have hn58b : (n30 : Int) ≤ ((n57 : Nat) : Int) := by omega
     replace hn58 : n30 ≤ n57 := by omega
     clear gn58 hn58a
     replace h := lsome h; obtain ⟨v59, hv59, h⟩ := h
     refine Chain.runK [] 12 fun K hK => ?_; simp [hv56, hn57, hn58, hv59]; refine hK _ _ ?_; clear hK K
     refine Chain.sub (S' := mk 58 [] [(4, .ptr 4 0 0), (5, .i (n57 : Int))] [(4, some (.box [.i 5, .d (.lit (.string v59)), .i 0, .i 0]))]) Sub.tt ?_
     refine Chain.nil ?_
     refine AW.ret ?_
     cases h
     refine blockQ.ret ?_
     refine thenQ_pass (by simp) ?_
     exact FinC.ret (by simp) (by simp)
    ·have c55_ : v43 = false := Bool.eq_false_iff.2 c55
     refine AW.condF (b := v43) rfl c55_ ?_
     refine AW.sub (Sub.bool 34 (b := v43) rfl c55_) ?_
     refine AW.sub (S' := mk 58 [] [(0, .d (.lit (.string a0))), (1, .i (n30 : Int)), (4, .ptr 4 0 0), (6, .i v26), (34, .b false)] [(4, some (.box [.i 0, .d (.lit (.string (ByteArray.mk #[]))), .i 0, .i 0]))]) (by simp; exact Sub.table (by simp) (by simp)) ?_
     refine AW.skip ?_
     refine blockQ.normal ?_
     refine thenQ_normal ?_
     refine AW.seqR ?_
     refine Chain.runK [] 3 fun K hK => ?_; simp; refine hK _ _ ?_; clear hK K
     refine Chain.sub (S' := mk 58 [] [(4, .ptr 4 0 0), (5, .i (-1))] [(4, some (.box [.i 0, .d (.lit (.string (ByteArray.mk #[]))), .i 0, .i 0]))]) Sub.tt ?_
     refine Chain.nil ?_
     refine AW.ret ?_
     cases h
     exact FinC.ret (by simp) (by simp)

end Go.Proofs.YtdiekinmoklonabDoor
