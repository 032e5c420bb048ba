/- Functions of the program as functional programs; the code computes them. -/
import Derived.Test.YtdiekinmoklonaaLk10
namespace Go.Proofs.Ytdiekinmoklonaa
open Go.Ab Go.Rp
attribute [-simp] List.all_eq_true Array.all_toList Array.all_eq_true

/-- (*stemma/stemref5.LockTable).ReleaseAll -/
def d12 (N : Nat) (a0 : S33) (a1 : Int) : Option (S33 × (List Int)) :=
 Option.bind (α := List S29) (
  iterN (σ := ((List S29) × Int)) (ρ := List S29) (fun ((l7, v8) : ((List S29) × Int)) =>
   if v8 < (a0.Granted.length : Int) then (
    (idx a0.Granted v8).bind fun x27 =>
    if (x27.Tx != a1) then (
     (appL 48 l7 [x27]).bind fun _l30 =>
     (chkI (v8 + 1)).bind fun v31 =>
     some (.inl ((l7 ++ [x27]), v31))
    ) else
    (chkI (v8 + 1)).bind fun v32 =>
    some (.inl (l7, v32))
   ) else
   some (.inr l7)
  ) N (([] : List S29), 0)
 ) fun (l25 : List S29) =>
 Option.bind (α := ((List Int) × (List S29) × (List S29))) (
  iterN (σ := ((List S29) × (List S29) × (List Int) × Int)) (ρ := ((List Int) × (List S29) × (List S29))) (fun ((l45, l46, l47, v48) : ((List S29) × (List S29) × (List Int) × Int)) =>
   if v48 < (a0.Queue.length : Int) then (
    (idx a0.Queue v48).bind fun x81 =>
    if (x81.Tx == a1) then (
     (chkI (v48 + 1)).bind fun v84 =>
     some (.inl (l45, l46, l47, v84))
    ) else
    (d27 N (S33.mk l45 l46) x81 (l46.length : Int)).bind fun r85 =>
    if ((r85.length : Int) == 0) then (
     (d28 N (S33.mk l45 l46) x81).bind fun r87 =>
     (appL 8 l47 [x81.Tx]).bind fun _l88 =>
     (chkI (v48 + 1)).bind fun v89 =>
     some (.inl (r87.Granted, r87.Queue, (l47 ++ [x81.Tx]), v89))
    ) else
    (appL 48 l46 [x81]).bind fun _l90 =>
    (chkI (v48 + 1)).bind fun v91 =>
    some (.inl (l45, (l46 ++ [x81]), l47, v91))
   ) else
   some (.inr (l47, l45, l46))
  ) N (l25, ([] : List S29), ([] : List Int), 0)
 ) fun ((l77, l78, l79) : ((List Int) × (List S29) × (List S29))) =>
 some ((S33.mk l78 l79), l77)
set_option maxRecDepth 100000 in
set_option maxHeartbeats 4000000 in
theorem p12 (N : Nat) (a0 : S33) (a1 : Int) (r : (S33 × (List Int))) (h : d12 N a0 a1 = some r) : FunM Try.prog 12 [.ptr 1000 0 0, .i a1] [(1000, some (.box [.ref 25000 0 a0.Granted.length, .ref 25001 0 a0.Queue.length])), (25000, R37 a0.Granted), (25001, R37 a0.Queue)] [1000] (.d (.sl (r.2.map (cI .i64)))) ([(1000, (.box [.ref 25000 0 r.1.Granted.length, .ref 25001 0 r.1.Queue.length])), (25000, (.arr 37 4 (r.1.Granted.map cS29))), (25001, (.arr 37 4 (r.1.Queue.map cS29)))]) := by
 unfold d12 at h
 refine FunM.enter 83 [(0, .ptr 1000 0 0), (1, .i a1)] Try.func12 rfl (of_decide_eq_true rfl) rfl rfl ?_
 refine AW.seqR ?_
 refine Chain.runK [] 1 fun K hK => ?_; simp; refine hK _ _ ?_; clear hK K
 refine Chain.sub (S' := mk 83 [1000] [(0, .ptr 1000 0 0), (1, .i a1)] [(1000, some (.box [.ref 25000 0 a0.Granted.length, .ref 25001 0 a0.Queue.length])), (25000, R37 a0.Granted), (25001, R37 a0.Queue)]) Sub.tt ?_
 refine Chain.nil ?_
 refine AW.seqR ?_
 refine Chain.runK [] 1 fun K hK => ?_; simp; refine hK _ _ ?_; clear hK K
 refine Chain.sub (S' := mk 83 [1000] [(0, .ptr 1000 0 0), (1, .i a1), (5, .d (.lit (.slice none 0 0)))] [(1000, some (.box [.ref 25000 0 a0.Granted.length, .ref 25001 0 a0.Queue.length])), (25000, R37 a0.Granted), (25001, R37 a0.Queue)]) Sub.tt ?_
 refine Chain.nil ?_
 refine AW.seq ?_
 refine AW.seqR ?_
 refine Chain.runK [] 6 fun K hK => ?_; simp; refine hK _ _ ?_; clear hK K
 refine Chain.sub (S' := mk 83 [1000] [(0, .ptr 1000 0 0), (1, .i a1), (5, .d (.lit (.slice none 0 0))), (15, .ref 25000 0 a0.Granted.length), (16, .i (a0.Granted.length : Int)), (17, .i 0)] [(1000, some (.box [.ref 25000 0 a0.Granted.length, .ref 25001 0 a0.Queue.length])), (25000, R37 a0.Granted), (25001, R37 a0.Queue)]) Sub.tt ?_
 refine Chain.nil ?_
 refine AW.lastN (fun (l25 : List S29) => mk 83 [1000] [(0, .ptr 1000 0 0), (1, .i a1), (5, .ref 28 0 l25.length)] [(28, R37 l25), (1000, some (.box [.ref 25000 0 a0.Granted.length, .ref 25001 0 a0.Queue.length])), (25000, R37 a0.Granted), (25001, R37 a0.Queue)]) h ?_ ?_ <;> clear h
 ·intro o h
  refine AW.block ?_
  refine AW.iter (fun ((l7, v8) : ((List S29) × Int)) => mk 83 [1000] [(0, .ptr 1000 0 0), (1, .i a1), (5, .ref 28 0 l7.length), (15, .ref 25000 0 a0.Granted.length), (16, .i (a0.Granted.length : Int)), (17, .i v8)] [(28, R37 l7), (1000, some (.box [.ref 25000 0 a0.Granted.length, .ref 25001 0 a0.Queue.length])), (25000, R37 a0.Granted), (25001, R37 a0.Queue)]) h (Sub.trans (Sub.nilOwn (t := 5) (id := 28) (T := 37) (n := 4) rfl rfl (by decide)) (by simp; exact Sub.table (by simp) (by simp))) ?_
  clear h
  rintro ⟨l7, v8⟩ x h
  dsimp only at h ⊢
  refine AW.seqR ?_
  refine Chain.runK [] 1 fun K hK => ?_; simp; refine hK _ _ ?_; clear hK K
  refine Chain.sub (S' := mk 83 [1000] [(0, .ptr 1000 0 0), (1, .i a1), (5, .ref 28 0 l7.length), (15, .ref 25000 0 a0.Granted.length), (16, .i (a0.Granted.length : Int)), (17, .i v8), (18, .b (decide (v8 < (a0.Granted.length : Int))))] [(28, R37 l7), (1000, some (.box [.ref 25000 0 a0.Granted.length, .ref 25001 0 a0.Queue.length])), (25000, R37 a0.Granted), (25001, R37 a0.Queue)]) Sub.tt ?_
  refine Chain.nil ?_
  refine AW.seq ?_
  replace h := isome h; rcases h with ⟨c26, h⟩ | ⟨c26, h⟩
  ·have c26_ : decide (v8 < (a0.Granted.length : Int)) = true := decide_eq_true c26
   refine AW.condT (b := decide (v8 < (a0.Granted.length : Int))) rfl c26_ ?_
   refine AW.sub (Sub.bool 18 (b := decide (v8 < (a0.Granted.length : Int))) rfl c26_) ?_
   refine AW.sub (S' := mk 83 [1000] [(0, .ptr 1000 0 0), (1, .i a1), (5, .ref 28 0 l7.length), (15, .ref 25000 0 a0.Granted.length), (16, .i (a0.Granted.length : Int)), (17, .i v8), (18, .b true)] [(28, R37 l7), (1000, some (.box [.ref 25000 0 a0.Granted.length, .ref 25001 0 a0.Queue.length])), (25000, R37 a0.Granted), (25001, R37 a0.Queue)]) (by simp; exact Sub.table (by simp) (by simp)) ?_
   refine AW.skip ?_
   refine thenQ_normal ?_
   refine AW.seq ?_
   refine AW.block ?_
   refine AW.seqR ?_
   replace h := bsome h; obtain ⟨x27, hx27, h⟩ := h
   obtain ⟨k28, hx27k, hx27, hx27a, hx27b⟩ := idx_some hx27
   refine Chain.runK [] 4 fun K hK => ?_; simp [hx27, hx27k, hx27a, hx27b]; refine hK _ _ ?_; clear hK K
   refine Chain.sub (S' := mk 83 [1000] [(0, .ptr 1000 0 0), (1, .i a1), (5, .ref 28 0 l7.length), (7, .ptr 7 0 0), (15, .ref 25000 0 a0.Granted.length), (16, .i (a0.Granted.length : Int)), (17, .i v8)] [(7, some (.box [.i x27.Tx, .d (.lit (.string x27.Table)), .d (.lit (.string x27.Key)), .i x27.Mode])), (28, R37 l7), (1000, some (.box [.ref 25000 0 a0.Granted.length, .ref 25001 0 a0.Queue.length])), (25000, R37 a0.Granted), (25001, R37 a0.Queue)]) Sub.tt ?_
   refine Chain.nil ?_
   refine AW.seqR ?_
   refine Chain.runK [] 4 fun K hK => ?_; simp; refine hK _ _ ?_; clear hK K
   refine Chain.sub (S' := mk 83 [1000] [(0, .ptr 1000 0 0), (1, .i a1), (5, .ref 28 0 l7.length), (7, .ptr 7 0 0), (15, .ref 25000 0 a0.Granted.length), (16, .i (a0.Granted.length : Int)), (17, .i v8), (24, .b (x27.Tx != a1))] [(7, some (.box [.i x27.Tx, .d (.lit (.string x27.Table)), .d (.lit (.string x27.Key)), .i x27.Mode])), (28, R37 l7), (1000, some (.box [.ref 25000 0 a0.Granted.length, .ref 25001 0 a0.Queue.length])), (25000, R37 a0.Granted), (25001, R37 a0.Queue)]) Sub.tt ?_
   refine Chain.nil ?_
   replace h := isome h; rcases h with ⟨c29, h⟩ | ⟨c29, h⟩
   ·have c29_ : (x27.Tx != a1) = true := c29
    refine AW.condT (b := (x27.Tx != a1)) rfl c29_ ?_
    refine AW.sub (Sub.bool 24 (b := (x27.Tx != a1)) rfl c29_) ?_
    refine AW.sub (S' := mk 83 [1000] [(0, .ptr 1000 0 0), (1, .i a1), (5, .ref 28 0 l7.length), (7, .ptr 7 0 0), (15, .ref 25000 0 a0.Granted.length), (16, .i (a0.Granted.length : Int)), (17, .i v8), (24, .b true)] [(7, some (.box [.i x27.Tx, .d (.lit (.string x27.Table)), .d (.lit (.string x27.Key)), .i x27.Mode])), (28, R37 l7), (1000, some (.box [.ref 25000 0 a0.Granted.length, .ref 25001 0 a0.Queue.length])), (25000, R37 a0.Granted), (25001, R37 a0.Queue)]) (by simp; exact Sub.table (by simp) (by simp)) ?_
    refine AW.region ?_
    replace h := bsome h; obtain ⟨l30, hl30, h⟩ := h
    obtain ⟨hl30a, hl30⟩ := appL_some hl30
    subst hl30
    try simp only [List.length_cons, List.length_nil, Nat.zero_add] at hl30a
    refine Chain.runK [27] 5 fun K hK => ?_; simp [hl30a]; refine hK _ _ ?_; clear hK K
    refine Chain.sub (S' := mk 83 [1000] [(0, .ptr 1000 0 0), (1, .i a1), (5, .ref 28 0 ((l7 ++ [x27]).length)), (15, .ref 25000 0 a0.Granted.length), (16, .i (a0.Granted.length : Int)), (17, .i v8)] [(28, R37 (l7 ++ [x27])), (1000, some (.box [.ref 25000 0 a0.Granted.length, .ref 25001 0 a0.Queue.length])), (25000, R37 a0.Granted), (25001, R37 a0.Queue)]) Sub.tt ?_
    refine Chain.nil ?_
    refine blockQ.normal ?_
    refine thenQ_normal ?_
    refine AW.region ?_
    replace h := bsome h; obtain ⟨v31, hv31, h⟩ := h
    have hv31 := chkI_some hv31
    refine Chain.runK [] 2 fun K hK => ?_; simp [hv31]; refine hK _ _ ?_; clear hK K
    refine Chain.sub (S' := mk 83 [1000] [(0, .ptr 1000 0 0), (1, .i a1), (5, .ref 28 0 ((l7 ++ [x27]).length)), (15, .ref 25000 0 a0.Granted.length), (16, .i (a0.Granted.length : Int)), (17, .i v31)] [(28, R37 (l7 ++ [x27])), (1000, some (.box [.ref 25000 0 a0.Granted.length, .ref 25001 0 a0.Queue.length])), (25000, R37 a0.Granted), (25001, R37 a0.Queue)]) Sub.tt ?_
    refine Chain.nil ?_
    cases h
    refine PostI.next ?_
    exact Sub.tt
   ·have c29_ : (x27.Tx != a1) = false := Bool.eq_false_iff.2 c29
    refine AW.condF (b := (x27.Tx != a1)) rfl c29_ ?_
    refine AW.sub (Sub.bool 24 (b := (x27.Tx != a1)) rfl c29_) ?_
    refine AW.sub (S' := mk 83 [1000] [(0, .ptr 1000 0 0), (1, .i a1), (5, .ref 28 0 l7.length), (7, .ptr 7 0 0), (15, .ref 25000 0 a0.Granted.length), (16, .i (a0.Granted.length : Int)), (17, .i v8), (24, .b false)] [(7, some (.box [.i x27.Tx, .d (.lit (.string x27.Table)), .d (.lit (.string x27.Key)), .i x27.Mode])), (28, R37 l7), (1000, some (.box [.ref 25000 0 a0.Granted.length, .ref 25001 0 a0.Queue.length])), (25000, R37 a0.Granted), (25001, R37 a0.Queue)]) (by simp; exact Sub.table (by simp) (by simp)) ?_
    refine AW.skip ?_
    refine blockQ.normal ?_
    refine thenQ_normal ?_
    refine AW.region ?_
    replace h := bsome h; obtain ⟨v32, hv32, h⟩ := h
    have hv32 := chkI_some hv32
    refine Chain.runK [] 2 fun K hK => ?_; simp [hv32]; refine hK _ _ ?_; clear hK K
    refine Chain.sub (S' := mk 83 [1000] [(0, .ptr 1000 0 0), (1, .i a1), (5, .ref 28 0 l7.length), (15, .ref 25000 0 a0.Granted.length), (16, .i (a0.Granted.length : Int)), (17, .i v32)] [(28, R37 l7), (1000, some (.box [.ref 25000 0 a0.Granted.length, .ref 25001 0 a0.Queue.length])), (25000, R37 a0.Granted), (25001, R37 a0.Queue)]) Sub.tt ?_
    refine Chain.nil ?_
    cases h
    refine PostI.next ?_
    exact Sub.tt
  ·have c26_ : decide (v8 < (a0.Granted.length : Int)) = false := decide_eq_false c26
   refine AW.condF (b := decide (v8 < (a0.Granted.length : Int))) rfl c26_ ?_
   refine AW.sub (Sub.bool 18 (b := decide (v8 < (a0.Granted.length : Int))) rfl c26_) ?_
   refine AW.sub (S' := mk 83 [1000] [(0, .ptr 1000 0 0), (1, .i a1), (5, .ref 28 0 l7.length), (15, .ref 25000 0 a0.Granted.length), (16, .i (a0.Granted.length : Int)), (17, .i v8), (18, .b false)] [(28, R37 l7), (1000, some (.box [.ref 25000 0 a0.Granted.length, .ref 25001 0 a0.Queue.length])), (25000, R37 a0.Granted), (25001, R37 a0.Queue)]) (by simp; exact Sub.table (by simp) (by simp)) ?_
   refine AW.exit ?_
   cases h
   refine thenQ_pass (by simp) ?_
   refine PostI.out (by simp) ?_
   rintro rfl
   refine blockQ.hit ?_
   refine PostN.next ?_
   exact Sub.tt
 ·rintro l25 h
  refine thenQ_normal ?_
  refine AW.seqR ?_
  refine Chain.runK [] 5 fun K hK => ?_; simp; refine hK _ _ ?_; clear hK K
  refine Chain.sub (S' := mk 83 [1000] [(0, .ptr 1000 0 0), (1, .i a1), (5, .ref 28 0 l25.length), (8, .ref 25001 0 a0.Queue.length)] [(28, R37 l25), (1000, some (.box [.ref 25000 0 a0.Granted.length, .ref 25001 0 a0.Queue.length])), (25000, R37 a0.Granted), (25001, R37 a0.Queue)]) Sub.tt ?_
  refine Chain.nil ?_
  refine AW.seqR ?_
  refine Chain.runK [] 6 fun K hK => ?_; simp; refine hK _ _ ?_; clear hK K
  refine Chain.sub (S' := mk 83 [1000] [(0, .ptr 1000 0 0), (1, .i a1), (8, .ref 25001 0 a0.Queue.length), (35, .ptr 1000 0 0)] [(28, R37 l25), (1000, some (.box [.ref 28 0 l25.length, .ref 25001 0 a0.Queue.length])), (25001, R37 a0.Queue)]) Sub.tt ?_
  refine Chain.sub (S' := mk 83 [1000] [(0, .ptr 1000 0 0), (1, .i a1), (8, .ref 25001 0 a0.Queue.length), (35, .ptr 1000 0 0)] [(1000, some (.box [.ref 25000 0 l25.length, .ref 25001 0 a0.Queue.length])), (25000, R37 l25), (25001, R37 a0.Queue)]) (Sub.names [(28, 25000), (1000, 1000), (25001, 25001)] (by simp) (by simp) (by simp [back]) (by simp [V.rnm, lk2]) (by simp [back, Blk.rnm, V.rnm, rnmL, lk2])) ?_
  refine Chain.runK [] 3 fun K hK => ?_; simp; refine hK _ _ ?_; clear hK K
  refine Chain.sub (S' := mk 83 [1000] [(0, .ptr 1000 0 0), (1, .i a1), (8, .ref 25001 0 a0.Queue.length)] [(1000, some (.box [.ref 25000 0 l25.length, .d (.lit (.slice none 0 0))])), (25000, R37 l25), (25001, R37 a0.Queue)]) Sub.tt ?_
  refine Chain.sub (S' := mk 83 [1000] [(0, .ptr 1000 0 0), (1, .i a1), (8, .ref 800033 0 a0.Queue.length)] [(1000, some (.box [.ref 25000 0 l25.length, .d (.lit (.slice none 0 0))])), (25000, R37 l25), (800033, R37 a0.Queue)]) (Sub.names [(1000, 1000), (25000, 25000), (25001, 800033)] (by simp) (by simp) (by simp [back]) (by simp [V.rnm, lk2]) (by simp [back, Blk.rnm, V.rnm, rnmL, lk2])) ?_
  refine Chain.sub (Sub.nilOwnBox (bid := 1000) (j := 1) (id := 25001) (T := 37) (n := 4) rfl rfl (by decide) rfl (by decide)) ?_
  refine Chain.sub (S' := mk 83 [1000] [(0, .ptr 1000 0 0), (1, .i a1), (8, .ref 800033 0 a0.Queue.length)] [(1000, some (.box [.ref 25000 0 l25.length, .ref 25001 0 (([] : List S29).length)])), (25000, R37 l25), (25001, R37 ([] : List S29)), (800033, R37 a0.Queue)]) (by simp; exact Sub.table (by simp) (by simp)) ?_
  refine Chain.nil ?_
  refine AW.seqR ?_
  refine Chain.runK [] 1 fun K hK => ?_; simp; refine hK _ _ ?_; clear hK K
  refine Chain.sub (S' := mk 83 [1000] [(0, .ptr 1000 0 0), (1, .i a1), (8, .ref 800033 0 a0.Queue.length), (9, .d (.lit (.slice none 0 0)))] [(1000, some (.box [.ref 25000 0 l25.length, .ref 25001 0 (([] : List S29).length)])), (25000, R37 l25), (25001, R37 ([] : List S29)), (800033, R37 a0.Queue)]) Sub.tt ?_
  refine Chain.nil ?_
  refine AW.seq ?_
  refine AW.seqR ?_
  refine Chain.runK [] 3 fun K hK => ?_; simp; refine hK _ _ ?_; clear hK K
  refine Chain.sub (S' := mk 83 [1000] [(0, .ptr 1000 0 0), (1, .i a1), (9, .d (.lit (.slice none 0 0))), (41, .ref 800033 0 a0.Queue.length), (42, .i (a0.Queue.length : Int)), (43, .i 0)] [(1000, some (.box [.ref 25000 0 l25.length, .ref 25001 0 (([] : List S29).length)])), (25000, R37 l25), (25001, R37 ([] : List S29)), (800033, R37 a0.Queue)]) Sub.tt ?_
  refine Chain.nil ?_
  refine AW.lastN (fun ((l77, l78, l79) : ((List Int) × (List S29) × (List S29))) => mk 83 [1000] [(9, .ref 80 0 l77.length)] [(80, R3 l77), (1000, some (.box [.ref 25000 0 l78.length, .ref 25001 0 l79.length])), (25000, R37 l78), (25001, R37 l79)]) h ?_ ?_ <;> clear h
  ·intro o h
   refine AW.block ?_
   refine AW.iter (fun ((l45, l46, l47, v48) : ((List S29) × (List S29) × (List Int) × Int)) => mk 83 [1000] [(0, .ptr 1000 0 0), (1, .i a1), (9, .ref 80 0 l47.length), (41, .ref 800033 0 a0.Queue.length), (42, .i (a0.Queue.length : Int)), (43, .i v48)] [(80, R3 l47), (1000, some (.box [.ref 25000 0 l45.length, .ref 25001 0 l46.length])), (25000, R37 l45), (25001, R37 l46), (800033, R37 a0.Queue)]) h (Sub.trans (Sub.nilOwn (t := 9) (id := 80) (T := 3) (n := 1) rfl rfl (by decide)) (by simp; exact Sub.table (by simp) (by simp))) ?_
   clear h
   rintro ⟨l45, l46, l47, v48⟩ x h
   dsimp only at h ⊢
   refine AW.seqR ?_
   refine Chain.runK [] 1 fun K hK => ?_; simp; refine hK _ _ ?_; clear hK K
   refine Chain.sub (S' := mk 83 [1000] [(0, .ptr 1000 0 0), (1, .i a1), (9, .ref 80 0 l47.length), (41, .ref 800033 0 a0.Queue.length), (42, .i (a0.Queue.length : Int)), (43, .i v48), (44, .b (decide (v48 < (a0.Queue.length : Int))))] [(80, R3 l47), (1000, some (.box [.ref 25000 0 l45.length, .ref 25001 0 l46.length])), (25000, R37 l45), (25001, R37 l46), (800033, R37 a0.Queue)]) Sub.tt ?_
   refine Chain.nil ?_
   refine AW.seq ?_
   replace h := isome h; rcases h with ⟨c80, h⟩ | ⟨c80, h⟩
   ·have c80_ : decide (v48 < (a0.Queue.length : Int)) = true := decide_eq_true c80
    refine AW.condT (b := decide (v48 < (a0.Queue.length : Int))) rfl c80_ ?_
    refine AW.sub (Sub.bool 44 (b := decide (v48 < (a0.Queue.length : Int))) rfl c80_) ?_
    refine AW.sub (S' := mk 83 [1000] [(0, .ptr 1000 0 0), (1, .i a1), (9, .ref 80 0 l47.length), (41, .ref 800033 0 a0.Queue.length), (42, .i (a0.Queue.length : Int)), (43, .i v48), (44, .b true)] [(80, R3 l47), (1000, some (.box [.ref 25000 0 l45.length, .ref 25001 0 l46.length])), (25000, R37 l45), (25001, R37 l46), (800033, R37 a0.Queue)]) (by simp; exact Sub.table (by simp) (by simp)) ?_
    refine AW.skip ?_
    refine thenQ_normal ?_
    refine AW.seq ?_
    refine AW.block ?_
    refine AW.seqR ?_
    replace h := bsome h; obtain ⟨x81, hx81, h⟩ := h
    obtain ⟨k82, hx81k, hx81, hx81a, hx81b⟩ := idx_some hx81
    refine Chain.runK [] 4 fun K hK => ?_; simp [hx81, hx81k, hx81a, hx81b]; refine hK _ _ ?_; clear hK K
    refine Chain.sub (S' := mk 83 [1000] [(0, .ptr 1000 0 0), (1, .i a1), (9, .ref 80 0 l47.length), (11, .ptr 11 0 0), (41, .ref 800033 0 a0.Queue.length), (42, .i (a0.Queue.length : Int)), (43, .i v48)] [(11, some (.box [.i x81.Tx, .d (.lit (.string x81.Table)), .d (.lit (.string x81.Key)), .i x81.Mode])), (80, R3 l47), (1000, some (.box [.ref 25000 0 l45.length, .ref 25001 0 l46.length])), (25000, R37 l45), (25001, R37 l46), (800033, R37 a0.Queue)]) Sub.tt ?_
    refine Chain.nil ?_
    refine AW.block ?_
    refine AW.seqR ?_
    refine Chain.runK [] 5 fun K hK => ?_; simp; refine hK _ _ ?_; clear hK K
    refine Chain.sub (S' := mk 83 [1000] [(0, .ptr 1000 0 0), (1, .i a1), (9, .ref 80 0 l47.length), (11, .ptr 11 0 0), (41, .ref 800033 0 a0.Queue.length), (42, .i (a0.Queue.length : Int)), (43, .i v48), (57, .b (x81.Tx == a1))] [(11, some (.box [.i x81.Tx, .d (.lit (.string x81.Table)), .d (.lit (.string x81.Key)), .i x81.Mode])), (80, R3 l47), (1000, some (.box [.ref 25000 0 l45.length, .ref 25001 0 l46.length])), (25000, R37 l45), (25001, R37 l46), (800033, R37 a0.Queue)]) Sub.tt ?_
    refine Chain.nil ?_
    replace h := isome h; rcases h with ⟨c83, h⟩ | ⟨c83, h⟩
    ·have c83_ : (x81.Tx == a1) = true := c83
     refine AW.condT (b := (x81.Tx == a1)) rfl c83_ ?_
     refine AW.sub (Sub.bool 57 (b := (x81.Tx == a1)) rfl c83_) ?_
     refine AW.sub (S' := mk 83 [1000] [(0, .ptr 1000 0 0), (1, .i a1), (9, .ref 80 0 l47.length), (11, .ptr 11 0 0), (41, .ref 800033 0 a0.Queue.length), (42, .i (a0.Queue.length : Int)), (43, .i v48), (57, .b true)] [(11, some (.box [.i x81.Tx, .d (.lit (.string x81.Table)), .d (.lit (.string x81.Key)), .i x81.Mode])), (80, R3 l47), (1000, some (.box [.ref 25000 0 l45.length, .ref 25001 0 l46.length])), (25000, R37 l45), (25001, R37 l46), (800033, R37 a0.Queue)]) (by simp; exact Sub.table (by simp) (by simp)) ?_
     refine AW.skip ?_
     refine blockQ.normal ?_
     refine blockQ.normal ?_
     refine thenQ_normal ?_
     refine AW.region ?_
     replace h := bsome h; obtain ⟨v84, hv84, h⟩ := h
     have hv84 := chkI_some hv84
     refine Chain.runK [] 2 fun K hK => ?_; simp [hv84]; refine hK _ _ ?_; clear hK K
     refine Chain.sub (S' := mk 83 [1000] [(0, .ptr 1000 0 0), (1, .i a1), (9, .ref 80 0 l47.length), (41, .ref 800033 0 a0.Queue.length), (42, .i (a0.Queue.length : Int)), (43, .i v84)] [(80, R3 l47), (1000, some (.box [.ref 25000 0 l45.length, .ref 25001 0 l46.length])), (25000, R37 l45), (25001, R37 l46), (800033, R37 a0.Queue)]) Sub.tt ?_
     refine Chain.nil ?_
     cases h
     refine PostI.next ?_
     exact Sub.tt
    ·have c83_ : (x81.Tx == a1) = false := Bool.eq_false_iff.2 c83
     refine AW.condF (b := (x81.Tx == a1)) rfl c83_ ?_
     refine AW.sub (Sub.bool 57 (b := (x81.Tx == a1)) rfl c83_) ?_
     refine AW.sub (S' := mk 83 [1000] [(0, .ptr 1000 0 0), (1, .i a1), (9, .ref 80 0 l47.length), (11, .ptr 11 0 0), (41, .ref 800033 0 a0.Queue.length), (42, .i (a0.Queue.length : Int)), (43, .i v48), (57, .b false)] [(11, some (.box [.i x81.Tx, .d (.lit (.string x81.Table)), .d (.lit (.string x81.Key)), .i x81.Mode])), (80, R3 l47), (1000, some (.box [.ref 25000 0 l45.length, .ref 25001 0 l46.length])), (25000, R37 l45), (25001, R37 l46), (800033, R37 a0.Queue)]) (by simp; exact Sub.table (by simp) (by simp)) ?_
     refine AW.seqT 7 (by kernel_rfl) (by kernel_rfl) fun K hK => ?_; simp; refine hK _ _ ?_; clear hK K
     refine Chain.sub (S' := mk 83 [1000] [(0, .ptr 1000 0 0), (1, .i a1), (9, .ref 80 0 l47.length), (11, .ptr 11 0 0), (41, .ref 800033 0 a0.Queue.length), (42, .i (a0.Queue.length : Int)), (43, .i v48), (63, .ptr 1000 0 0), (64, .agg [.i x81.Tx, .d (.lit (.string x81.Table)), .d (.lit (.string x81.Key)), .i x81.Mode]), (69, .i (l46.length : Int))] [(11, some (.box [.i x81.Tx, .d (.lit (.string x81.Table)), .d (.lit (.string x81.Key)), .i x81.Mode])), (80, R3 l47), (1000, some (.box [.ref 25000 0 l45.length, .ref 25001 0 l46.length])), (25000, R37 l45), (25001, R37 l46), (800033, R37 a0.Queue)]) Sub.tt ?_
     replace h := bsome h; obtain ⟨r85, hr85, h⟩ := h
     refine Chain.callOF (d := 70) (p27 N (S33.mk l45 l46) x81 (l46.length : Int) r85 hr85) (by simp) rfl rfl (by simp <;> rfl) (by simp <;> rfl) ent27 (by simp) (fun r h => flat_of_ren r h) (flat_map (by simp [cI]) _) ?_
     refine Chain.sub (S' := mk 83 [1000] [(0, .ptr 1000 0 0), (1, .i a1), (9, .ref 80 0 l47.length), (11, .ptr 11 0 0), (41, .ref 800033 0 a0.Queue.length), (42, .i (a0.Queue.length : Int)), (43, .i v48), (63, .ptr 1000 0 0), (64, .agg [.i x81.Tx, .d (.lit (.string x81.Table)), .d (.lit (.string x81.Key)), .i x81.Mode]), (69, .i (l46.length : Int)), (70, .ref 70 0 r85.length)] [(11, some (.box [.i x81.Tx, .d (.lit (.string x81.Table)), .d (.lit (.string x81.Key)), .i x81.Mode])), (70, R3 r85), (80, R3 l47), (1000, some (.box [.ref 25000 0 l45.length, .ref 25001 0 l46.length])), (25000, R37 l45), (25001, R37 l46), (800033, R37 a0.Queue)]) (by simp; exact Sub.table (by simp) (by simp)) ?_
     refine Chain.runK [] 3 fun K hK => ?_; simp; refine hK _ _ ?_; clear hK K
     refine Chain.sub (S' := mk 83 [1000] [(0, .ptr 1000 0 0), (1, .i a1), (9, .ref 80 0 l47.length), (11, .ptr 11 0 0), (41, .ref 800033 0 a0.Queue.length), (42, .i (a0.Queue.length : Int)), (43, .i v48), (62, .b ((r85.length : Int) == 0))] [(11, some (.box [.i x81.Tx, .d (.lit (.string x81.Table)), .d (.lit (.string x81.Key)), .i x81.Mode])), (80, R3 l47), (1000, some (.box [.ref 25000 0 l45.length, .ref 25001 0 l46.length])), (25000, R37 l45), (25001, R37 l46), (800033, R37 a0.Queue)]) Sub.tt ?_
     refine Chain.nil ?_
     replace h := isome h; rcases h with ⟨c86, h⟩ | ⟨c86, h⟩
     ·have c86_ : ((r85.length : Int) == 0) = true := c86
      refine AW.condT (b := ((r85.length : Int) == 0)) rfl c86_ ?_
      refine AW.sub (Sub.bool 62 (b := ((r85.length : Int) == 0)) rfl c86_) ?_
      refine AW.sub (S' := mk 83 [1000] [(0, .ptr 1000 0 0), (1, .i a1), (9, .ref 80 0 l47.length), (11, .ptr 11 0 0), (41, .ref 800033 0 a0.Queue.length), (42, .i (a0.Queue.length : Int)), (43, .i v48), (62, .b true)] [(11, some (.box [.i x81.Tx, .d (.lit (.string x81.Table)), .d (.lit (.string x81.Key)), .i x81.Mode])), (80, R3 l47), (1000, some (.box [.ref 25000 0 l45.length, .ref 25001 0 l46.length])), (25000, R37 l45), (25001, R37 l46), (800033, R37 a0.Queue)]) (by simp; exact Sub.table (by simp) (by simp)) ?_
      refine AW.seqR ?_
      refine Chain.runK [] 2 fun K hK => ?_; simp; refine hK _ _ ?_; clear hK K
      refine Chain.sub (S' := mk 83 [1000] [(0, .ptr 1000 0 0), (1, .i a1), (9, .ref 80 0 l47.length), (11, .ptr 11 0 0), (41, .ref 800033 0 a0.Queue.length), (42, .i (a0.Queue.length : Int)), (43, .i v48), (73, .ptr 1000 0 0), (74, .agg [.i x81.Tx, .d (.lit (.string x81.Table)), .d (.lit (.string x81.Key)), .i x81.Mode])] [(11, some (.box [.i x81.Tx, .d (.lit (.string x81.Table)), .d (.lit (.string x81.Key)), .i x81.Mode])), (80, R3 l47), (1000, some (.box [.ref 25000 0 l45.length, .ref 25001 0 l46.length])), (25000, R37 l45), (25001, R37 l46), (800033, R37 a0.Queue)]) Sub.tt ?_
      replace h := bsome h; obtain ⟨r87, hr87, h⟩ := h
      refine Chain.callF (p28 N (S33.mk l45 l46) x81 r87 hr87) [(1000, 1000), (25000, 25000), (25001, 25001)] [1000] [(1000, 1000), (25000, 25000), (25001, 25001)] [(1000, (.box [.ref 25000 0 r87.Granted.length, .ref 25001 0 r87.Queue.length])), (25000, (.arr 37 4 (r87.Granted.map cS29))), (25001, (.arr 37 4 (r87.Queue.map cS29)))] (.tup []) (by simp) rfl (by simp <;> rfl) (by simp) (by simp) (by simp) (by simp) (by simp) ent28 (by simp) (by simp) (by simp) (by simp) (by simp) (by simp) ?_
      refine Chain.sub (S' := mk 83 [1000] [(0, .ptr 1000 0 0), (1, .i a1), (9, .ref 80 0 l47.length), (11, .ptr 11 0 0), (41, .ref 800033 0 a0.Queue.length), (42, .i (a0.Queue.length : Int)), (43, .i v48), (73, .ptr 1000 0 0), (74, .agg [.i x81.Tx, .d (.lit (.string x81.Table)), .d (.lit (.string x81.Key)), .i x81.Mode]), (75, .tup [])] [(11, some (.box [.i x81.Tx, .d (.lit (.string x81.Table)), .d (.lit (.string x81.Key)), .i x81.Mode])), (80, R3 l47), (1000, some (.box [.ref 25000 0 r87.Granted.length, .ref 25001 0 r87.Queue.length])), (25000, R37 r87.Granted), (25001, R37 r87.Queue), (800033, R37 a0.Queue)]) (by simp; exact Sub.table (by simp) (by simp)) ?_
      refine Chain.nil ?_
      refine AW.region ?_
      replace h := bsome h; obtain ⟨l88, hl88, h⟩ := h
      obtain ⟨hl88a, hl88⟩ := appL_some hl88
      subst hl88
      try simp only [List.length_cons, List.length_nil, Nat.zero_add] at hl88a
      refine Chain.runK [79] 6 fun K hK => ?_; simp [hl88a]; refine hK _ _ ?_; clear hK K
      refine Chain.sub (S' := mk 83 [1000] [(0, .ptr 1000 0 0), (1, .i a1), (9, .ref 80 0 ((l47 ++ [x81.Tx]).length)), (41, .ref 800033 0 a0.Queue.length), (42, .i (a0.Queue.length : Int)), (43, .i v48)] [(80, R3 (l47 ++ [x81.Tx])), (1000, some (.box [.ref 25000 0 r87.Granted.length, .ref 25001 0 r87.Queue.length])), (25000, R37 r87.Granted), (25001, R37 r87.Queue), (800033, R37 a0.Queue)]) Sub.tt ?_
      refine Chain.nil ?_
      refine blockQ.normal ?_
      refine blockQ.normal ?_
      refine thenQ_normal ?_
      refine AW.region ?_
      replace h := bsome h; obtain ⟨v89, hv89, h⟩ := h
      have hv89 := chkI_some hv89
      refine Chain.runK [] 2 fun K hK => ?_; simp [hv89]; refine hK _ _ ?_; clear hK K
      refine Chain.sub (S' := mk 83 [1000] [(0, .ptr 1000 0 0), (1, .i a1), (9, .ref 80 0 ((l47 ++ [x81.Tx]).length)), (41, .ref 800033 0 a0.Queue.length), (42, .i (a0.Queue.length : Int)), (43, .i v89)] [(80, R3 (l47 ++ [x81.Tx])), (1000, some (.box [.ref 25000 0 r87.Granted.length, .ref 25001 0 r87.Queue.length])), (25000, R37 r87.Granted), (25001, R37 r87.Queue), (800033, R37 a0.Queue)]) Sub.tt ?_
      refine Chain.nil ?_
      cases h
      refine PostI.next ?_
      exact Sub.tt
     ·have c86_ : ((r85.length : Int) == 0) = false := Bool.eq_false_iff.2 c86
      refine AW.condF (b := ((r85.length : Int) == 0)) rfl c86_ ?_
      refine AW.sub (Sub.bool 62 (b := ((r85.length : Int) == 0)) rfl c86_) ?_
      refine AW.sub (S' := mk 83 [1000] [(0, .ptr 1000 0 0), (1, .i a1), (9, .ref 80 0 l47.length), (11, .ptr 11 0 0), (41, .ref 800033 0 a0.Queue.length), (42, .i (a0.Queue.length : Int)), (43, .i v48), (62, .b false)] [(11, some (.box [.i x81.Tx, .d (.lit (.string x81.Table)), .d (.lit (.string x81.Key)), .i x81.Mode])), (80, R3 l47), (1000, some (.box [.ref 25000 0 l45.length, .ref 25001 0 l46.length])), (25000, R37 l45), (25001, R37 l46), (800033, R37 a0.Queue)]) (by simp; exact Sub.table (by simp) (by simp)) ?_
      replace h := bsome h; obtain ⟨l90, hl90, h⟩ := h
      obtain ⟨hl90a, hl90⟩ := appL_some hl90
      subst hl90
      try simp only [List.length_cons, List.length_nil, Nat.zero_add] at hl90a
      refine AW.lastAnyS [[], [], [1], [1, 2], [1, 2, 3], [], [5], [1, 2, 3, 4, 5, 6], [0, 1, 2, 3, 4, 5, 6, 7], [0, 1, 2, 3, 4, 5, 6, 7, 8], [0, 1, 2, 3, 4, 5, 6, 7, 8, 9]] (fun (b : Nat → Bool) => mk 83 [1000] [(0, .ptr 1000 0 0), (1, .i a1), (9, .ref 80 0 l47.length), (11, .ptr 11 0 0), (41, .ref 800033 0 a0.Queue.length), (42, .i (a0.Queue.length : Int)), (43, .i v48), (47, (if b 0 then .ptr 1000 0 0 else .junk)), (48, (if b 1 then .ptr 1000 0 0 else .junk)), (49, (if b 2 then .ptr 1000 0 0 else .junk)), (50, (if b 3 then .ptr 1000 0 1 else .junk)), (51, (if b 7 then .junk else (if b 4 then .ref 25001 0 l46.length else .junk))), (52, (if b 5 then .agg [.i x81.Tx, .d (.lit (.string x81.Table)), .d (.lit (.string x81.Key)), .i x81.Mode] else .junk)), (53, (if b 6 then .d (.sl ([x81].map cS29)) else .junk)), (54, (if b 7 then .ref 25001 0 ((l46 ++ [x81]).length) else .junk)), (55, (if b 8 then .ptr 1000 0 0 else .junk)), (56, (if b 9 then .ptr 1000 0 1 else .junk))] [(11, some (.box [.i x81.Tx, .d (.lit (.string x81.Table)), .d (.lit (.string x81.Key)), .i x81.Mode])), (80, R3 l47), (1000, (if b 10 then some (.box [.ref 25000 0 l45.length, .ref 25001 0 ((l46 ++ [x81]).length)]) else (if b 7 then some (.box [.ref 25000 0 l45.length, .hole]) else some (.box [.ref 25000 0 l45.length, .ref 25001 0 l46.length])))), (25000, R37 l45), (25001, (if b 7 then R37 (l46 ++ [x81]) else R37 l46)), (800033, R37 a0.Queue)]) (mk 83 [1000] [(0, .ptr 1000 0 0), (1, .i a1), (9, .ref 80 0 l47.length), (41, .ref 800033 0 a0.Queue.length), (42, .i (a0.Queue.length : Int)), (43, .i v48)] [(80, R3 l47), (1000, some (.box [.ref 25000 0 l45.length, .ref 25001 0 ((l46 ++ [x81]).length)])), (25000, R37 l45), (25001, R37 (l46 ++ [x81])), (800033, R37 a0.Queue)]) (by kernel_rfl) (by kernel_rfl) Sub.tt (Steps.cons ?_ (Steps.cons ?_ (Steps.cons ?_ (Steps.cons ?_ (Steps.cons ?_ (Steps.cons ?_ (Steps.cons ?_ (Steps.cons ?_ (Steps.cons ?_ (Steps.cons ?_ (Steps.cons ?_ (Steps.nil)))))))))))) ?_ ?_
      ·intro b h0 ha hd
       have f8 : b 8 = false := hd 8 (by decide)
       have f9 : b 9 = false := hd 9 (by decide)
       have f10 : b 10 = false := hd 10 (by decide)
       refine Chain.runK [53] 1 fun K hK => ?_; simp [h0, f8, f9, f10]; refine hK _ _ ?_; clear hK K
       exact Chain.nil (Sub.table (by simp [f8, f9]) (by simp [f10]))
      ·intro b h0 ha hd
       have f2 : b 2 = false := hd 2 (by decide)
       have f3 : b 3 = false := hd 3 (by decide)
       have f4 : b 4 = false := hd 4 (by decide)
       have f7 : b 7 = false := hd 7 (by decide)
       have f8 : b 8 = false := hd 8 (by decide)
       have f9 : b 9 = false := hd 9 (by decide)
       have f10 : b 10 = false := hd 10 (by decide)
       refine Chain.runK [53] 1 fun K hK => ?_; simp [h0, f2, f3, f4, f7, f8, f9, f10]; refine hK _ _ ?_; clear hK K
       exact Chain.nil (Sub.table (by simp [f2, f3, f4, f7, f8, f9]) (by simp [f7, f10]))
      ·intro b h0 ha hd
       have t1 : b 1 = true := ha 1 (by decide)
       have f3 : b 3 = false := hd 3 (by decide)
       have f4 : b 4 = false := hd 4 (by decide)
       have f7 : b 7 = false := hd 7 (by decide)
       have f8 : b 8 = false := hd 8 (by decide)
       have f9 : b 9 = false := hd 9 (by decide)
       have f10 : b 10 = false := hd 10 (by decide)
       refine Chain.runK [53] 1 fun K hK => ?_; simp [h0, t1, f3, f4, f7, f8, f9, f10]; refine hK _ _ ?_; clear hK K
       exact Chain.nil (Sub.table (by simp [t1, f3, f4, f7, f8, f9]) (by simp [f7, f10]))
      ·intro b h0 ha hd
       have t1 : b 1 = true := ha 1 (by decide)
       have t2 : b 2 = true := ha 2 (by decide)
       have f4 : b 4 = false := hd 4 (by decide)
       have f7 : b 7 = false := hd 7 (by decide)
       have f8 : b 8 = false := hd 8 (by decide)
       have f9 : b 9 = false := hd 9 (by decide)
       have f10 : b 10 = false := hd 10 (by decide)
       refine Chain.runK [53] 1 fun K hK => ?_; simp [h0, t1, t2, f4, f7, f8, f9, f10]; refine hK _ _ ?_; clear hK K
       exact Chain.nil (Sub.table (by simp [t1, t2, f4, f7, f8, f9]) (by simp [f7, f10]))
      ·intro b h0 ha hd
       have t1 : b 1 = true := ha 1 (by decide)
       have t2 : b 2 = true := ha 2 (by decide)
       have t3 : b 3 = true := ha 3 (by decide)
       have f7 : b 7 = false := hd 7 (by decide)
       have f8 : b 8 = false := hd 8 (by decide)
       have f9 : b 9 = false := hd 9 (by decide)
       have f10 : b 10 = false := hd 10 (by decide)
       refine Chain.runK [53] 1 fun K hK => ?_; simp [h0, t1, t2, t3, f7, f8, f9, f10]; refine hK _ _ ?_; clear hK K
       exact Chain.nil (Sub.table (by simp [t1, t2, t3, f7, f8, f9]) (by simp [f7, f10]))
      ·intro b h0 ha hd
       have f6 : b 6 = false := hd 6 (by decide)
       have f7 : b 7 = false := hd 7 (by decide)
       have f8 : b 8 = false := hd 8 (by decide)
       have f9 : b 9 = false := hd 9 (by decide)
       have f10 : b 10 = false := hd 10 (by decide)
       refine Chain.runK [53] 1 fun K hK => ?_; simp [h0, f6, f7, f8, f9, f10]; refine hK _ _ ?_; clear hK K
       exact Chain.nil (Sub.table (by simp [f6, f7, f8, f9]) (by simp [f7, f10]))
      ·intro b h0 ha hd
       have t5 : b 5 = true := ha 5 (by decide)
       have f7 : b 7 = false := hd 7 (by decide)
       have f8 : b 8 = false := hd 8 (by decide)
       have f9 : b 9 = false := hd 9 (by decide)
       have f10 : b 10 = false := hd 10 (by decide)
       refine Chain.runK [53] 1 fun K hK => ?_; simp [h0, t5, f7, f8, f9, f10]; refine hK _ _ ?_; clear hK K
       exact Chain.nil (Sub.table (by simp [t5, f7, f8, f9]) (by simp [f7, f10]))
      ·intro b h0 ha hd
       have t1 : b 1 = true := ha 1 (by decide)
       have t2 : b 2 = true := ha 2 (by decide)
       have t3 : b 3 = true := ha 3 (by decide)
       have t4 : b 4 = true := ha 4 (by decide)
       have t5 : b 5 = true := ha 5 (by decide)
       have t6 : b 6 = true := ha 6 (by decide)
       have f8 : b 8 = false := hd 8 (by decide)
       have f9 : b 9 = false := hd 9 (by decide)
       have f10 : b 10 = false := hd 10 (by decide)
       refine Chain.runK [53] 1 fun K hK => ?_; simp [h0, t1, t2, t3, t4, t5, t6, f8, f9, f10, hl90a]; refine hK _ _ ?_; clear hK K
       exact Chain.nil (Sub.table (by simp [t1, t2, t3, t5, t6, f8, f9]) (by simp [f10]))
      ·intro b h0 ha hd
       have t0 : b 0 = true := ha 0 (by decide)
       have t1 : b 1 = true := ha 1 (by decide)
       have t2 : b 2 = true := ha 2 (by decide)
       have t3 : b 3 = true := ha 3 (by decide)
       have t4 : b 4 = true := ha 4 (by decide)
       have t5 : b 5 = true := ha 5 (by decide)
       have t6 : b 6 = true := ha 6 (by decide)
       have t7 : b 7 = true := ha 7 (by decide)
       have f9 : b 9 = false := hd 9 (by decide)
       have f10 : b 10 = false := hd 10 (by decide)
       refine Chain.runK [53] 1 fun K hK => ?_; simp [h0, t0, t1, t2, t3, t5, t6, t7, f9, f10]; refine hK _ _ ?_; clear hK K
       exact Chain.nil (Sub.table (by simp [t0, t1, t2, t3, t5, t6, t7, f9]) (by simp [t7, f10]))
      ·intro b h0 ha hd
       have t0 : b 0 = true := ha 0 (by decide)
       have t1 : b 1 = true := ha 1 (by decide)
       have t2 : b 2 = true := ha 2 (by decide)
       have t3 : b 3 = true := ha 3 (by decide)
       have t4 : b 4 = true := ha 4 (by decide)
       have t5 : b 5 = true := ha 5 (by decide)
       have t6 : b 6 = true := ha 6 (by decide)
       have t7 : b 7 = true := ha 7 (by decide)
       have t8 : b 8 = true := ha 8 (by decide)
       have f10 : b 10 = false := hd 10 (by decide)
       refine Chain.runK [53] 1 fun K hK => ?_; simp [h0, t0, t1, t2, t3, t5, t6, t7, t8, f10]; refine hK _ _ ?_; clear hK K
       exact Chain.nil (Sub.table (by simp [t0, t1, t2, t3, t5, t6, t7, t8]) (by simp [t7, f10]))
      ·intro b h0 ha hd
       have t0 : b 0 = true := ha 0 (by decide)
       have t1 : b 1 = true := ha 1 (by decide)
       have t2 : b 2 = true := ha 2 (by decide)
       have t3 : b 3 = true := ha 3 (by decide)
       have t4 : b 4 = true := ha 4 (by decide)
       have t5 : b 5 = true := ha 5 (by decide)
       have t6 : b 6 = true := ha 6 (by decide)
       have t7 : b 7 = true := ha 7 (by decide)
       have t8 : b 8 = true := ha 8 (by decide)
       have t9 : b 9 = true := ha 9 (by decide)
       refine Chain.runK [53] 1 fun K hK => ?_; simp [h0, t0, t1, t2, t3, t5, t6, t7, t8, t9]; refine hK _ _ ?_; clear hK K
       exact Chain.nil (Sub.table (by simp [t0, t1, t2, t3, t5, t6, t7, t8, t9]) (by simp [t7]))
      ·intro b hb
       have t0 := hb 0 (by decide)
       have t1 := hb 1 (by decide)
       have t2 := hb 2 (by decide)
       have t3 := hb 3 (by decide)
       have t4 := hb 4 (by decide)
       have t5 := hb 5 (by decide)
       have t6 := hb 6 (by decide)
       have t7 := hb 7 (by decide)
       have t8 := hb 8 (by decide)
       have t9 := hb 9 (by decide)
       have t10 := hb 10 (by decide)
       exact Sub.table (by simp [t0, t1, t2, t3, t5, t6, t7, t8, t9]) (by simp [t7, t10])
      ·skip
       refine blockQ.normal ?_
       refine blockQ.normal ?_
       refine thenQ_normal ?_
       refine AW.region ?_
       replace h := bsome h; obtain ⟨v91, hv91, h⟩ := h
       have hv91 := chkI_some hv91
       refine Chain.runK [] 2 fun K hK => ?_; simp [hv91]; refine hK _ _ ?_; clear hK K
       refine Chain.sub (S' := mk 83 [1000] [(0, .ptr 1000 0 0), (1, .i a1), (9, .ref 80 0 l47.length), (41, .ref 800033 0 a0.Queue.length), (42, .i (a0.Queue.length : Int)), (43, .i v91)] [(80, R3 l47), (1000, some (.box [.ref 25000 0 l45.length, .ref 25001 0 ((l46 ++ [x81]).length)])), (25000, R37 l45), (25001, R37 (l46 ++ [x81])), (800033, R37 a0.Queue)]) Sub.tt ?_
       refine Chain.nil ?_
       cases h
       refine PostI.next ?_
       exact Sub.tt
   ·have c80_ : decide (v48 < (a0.Queue.length : Int)) = false := decide_eq_false c80
    refine AW.condF (b := decide (v48 < (a0.Queue.length : Int))) rfl c80_ ?_
    refine AW.sub (Sub.bool 44 (b := decide (v48 < (a0.Queue.length : Int))) rfl c80_) ?_
    refine AW.sub (S' := mk 83 [1000] [(0, .ptr 1000 0 0), (1, .i a1), (9, .ref 80 0 l47.length), (41, .ref 800033 0 a0.Queue.length), (42, .i (a0.Queue.length : Int)), (43, .i v48), (44, .b false)] [(80, R3 l47), (1000, some (.box [.ref 25000 0 l45.length, .ref 25001 0 l46.length])), (25000, R37 l45), (25001, R37 l46), (800033, R37 a0.Queue)]) (by simp; exact Sub.table (by simp) (by simp)) ?_
    refine AW.exit ?_
    cases h
    refine thenQ_pass (by simp) ?_
    refine PostI.out (by simp) ?_
    rintro rfl
    refine blockQ.hit ?_
    refine PostN.next ?_
    exact Sub.tt
  ·rintro ⟨l77, l78, l79⟩ h
   dsimp only at h ⊢
   refine thenQ_normal ?_
   refine AW.seqR ?_
   refine Chain.runK [] 2 fun K hK => ?_; simp; refine hK _ _ ?_; clear hK K
   refine Chain.sub (S' := mk 83 [1000] [(4, .ref 80 0 l77.length)] [(80, R3 l77), (1000, some (.box [.ref 25000 0 l78.length, .ref 25001 0 l79.length])), (25000, R37 l78), (25001, R37 l79)]) Sub.tt ?_
   refine Chain.nil ?_
   refine AW.sub (Sub.freeze 80 rfl) ?_
   refine AW.sub (S' := mk 83 [1000] [(4, .d (.sl (l77.map (cI .i64))))] [(1000, some (.box [.ref 25000 0 l78.length, .ref 25001 0 l79.length])), (25000, R37 l78), (25001, R37 l79)]) (by simp; exact Sub.table (by simp) (by simp)) ?_
   refine AW.ret ?_
   cases h
   exact FinF.ret (by simp) (by simp)

/-- slices.Equal[[]int,int] -/
def d11 (N : Nat) (a0 : (List Int)) (a1 : (List Int)) : Option Bool :=
 if ((a0.length : Int) != (a1.length : Int)) then (
  some false
 ) else
 bindO (β := Unit) (ρ := Bool) (
  iterN (σ := Int) (ρ := (Out Unit Bool)) (fun (v7 : Int) =>
   if v7 < (a0.length : Int) then (
    (idx a0 v7).bind fun x22 =>
    (idx a1 v7).bind fun x24 =>
    if (x22 != x24) then (
     some (.inr (.ret false))
    ) else
    (chkI (v7 + 1)).bind fun v26 =>
    some (.inl v26)
   ) else
   some (.inr (.go ()))
  ) N 0
 ) fun (_ : Unit) =>
 some true
set_option maxRecDepth 100000 in
set_option maxHeartbeats 4000000 in
theorem p11 (N : Nat) (a0 : (List Int)) (a1 : (List Int)) (r : Bool) (h : d11 N a0 a1 = some r) : FunC Try.prog 11 [.d (.sl (a0.map (cI .i64))), .d (.sl (a1.map (cI .i64)))] (.b r) := by
 unfold d11 at h
 refine FunC.enter 26 [(0, .d (.sl (a0.map (cI .i64)))), (1, .d (.sl (a1.map (cI .i64))))] (by simp) Try.func11 rfl (of_decide_eq_true rfl) rfl rfl ?_
 refine AW.seqR ?_
 refine Chain.runK [] 1 fun K hK => ?_; simp; refine hK _ _ ?_; clear hK K
 refine Chain.sub (S' := mk 26 [] [(0, .d (.sl (a0.map (cI .i64)))), (1, .d (.sl (a1.map (cI .i64))))] []) Sub.tt ?_
 refine Chain.nil ?_
 refine AW.seq ?_
 refine AW.seqR ?_
 refine Chain.runK [] 5 fun K hK => ?_; simp; refine hK _ _ ?_; clear hK K
 refine Chain.sub (S' := mk 26 [] [(0, .d (.sl (a0.map (cI .i64)))), (1, .d (.sl (a1.map (cI .i64)))), (10, .b ((a0.length : Int) != (a1.length : Int)))] []) Sub.tt ?_
 refine Chain.nil ?_
 replace h := isome h; rcases h with ⟨c1, h⟩ | ⟨c1, h⟩
 ·have c1_ : ((a0.length : Int) != (a1.length : Int)) = true := c1
  refine AW.condT (b := ((a0.length : Int) != (a1.length : Int))) rfl c1_ ?_
  refine AW.sub (Sub.bool 10 (b := ((a0.length : Int) != (a1.length : Int))) rfl c1_) ?_
  refine AW.sub (S' := mk 26 [] [(0, .d (.sl (a0.map (cI .i64)))), (1, .d (.sl (a1.map (cI .i64)))), (10, .b true)] []) (by simp; exact Sub.table (by simp) (by simp)) ?_
  refine AW.seqR ?_
  refine Chain.runK [] 1 fun K hK => ?_; simp; refine hK _ _ ?_; clear hK K
  refine Chain.sub (S' := mk 26 [] [(4, .b false)] []) Sub.tt ?_
  refine Chain.nil ?_
  refine AW.ret ?_
  cases h
  refine thenQ_pass (by simp) ?_
  exact FinC.ret (by simp) (by simp)
 ·have c1_ : ((a0.length : Int) != (a1.length : Int)) = false := Bool.eq_false_iff.2 c1
  refine AW.condF (b := ((a0.length : Int) != (a1.length : Int))) rfl c1_ ?_
  refine AW.sub (Sub.bool 10 (b := ((a0.length : Int) != (a1.length : Int))) rfl c1_) ?_
  refine AW.sub (S' := mk 26 [] [(0, .d (.sl (a0.map (cI .i64)))), (1, .d (.sl (a1.map (cI .i64)))), (10, .b false)] []) (by simp; exact Sub.table (by simp) (by simp)) ?_
  refine AW.skip ?_
  refine thenQ_normal ?_
  refine AW.seq ?_
  refine AW.seqR ?_
  refine Chain.runK [] 3 fun K hK => ?_; simp; refine hK _ _ ?_; clear hK K
  refine Chain.sub (S' := mk 26 [] [(0, .d (.sl (a0.map (cI .i64)))), (1, .d (.sl (a1.map (cI .i64)))), (12, .i (a0.length : Int)), (13, .i 0)] []) Sub.tt ?_
  refine Chain.nil ?_
  refine AW.lastJ (fun (_ : Unit) => mk 26 [] [] []) h ?_ ?_ <;> clear h
  ·intro o h
   refine AW.block ?_
   refine AW.iter (fun (v7 : Int) => mk 26 [] [(0, .d (.sl (a0.map (cI .i64)))), (1, .d (.sl (a1.map (cI .i64)))), (12, .i (a0.length : Int)), (13, .i v7)] []) h Sub.tt ?_
   clear h
   rintro v7 x h
   refine AW.seqR ?_
   refine Chain.runK [] 1 fun K hK => ?_; simp; refine hK _ _ ?_; clear hK K
   refine Chain.sub (S' := mk 26 [] [(0, .d (.sl (a0.map (cI .i64)))), (1, .d (.sl (a1.map (cI .i64)))), (12, .i (a0.length : Int)), (13, .i v7), (14, .b (decide (v7 < (a0.length : Int))))] []) Sub.tt ?_
   refine Chain.nil ?_
   refine AW.seq ?_
   replace h := isome h; rcases h with ⟨c21, h⟩ | ⟨c21, h⟩
   ·have c21_ : decide (v7 < (a0.length : Int)) = true := decide_eq_true c21
    refine AW.condT (b := decide (v7 < (a0.length : Int))) rfl c21_ ?_
    refine AW.sub (Sub.bool 14 (b := decide (v7 < (a0.length : Int))) rfl c21_) ?_
    refine AW.sub (S' := mk 26 [] [(0, .d (.sl (a0.map (cI .i64)))), (1, .d (.sl (a1.map (cI .i64)))), (12, .i (a0.length : Int)), (13, .i v7), (14, .b true)] []) (by simp; exact Sub.table (by simp) (by simp)) ?_
    refine AW.skip ?_
    refine thenQ_normal ?_
    refine AW.seq ?_
    refine AW.block ?_
    refine AW.seqR ?_
    refine Chain.runK [] 2 fun K hK => ?_; simp; refine hK _ _ ?_; clear hK K
    refine Chain.sub (S' := mk 26 [] [(0, .d (.sl (a0.map (cI .i64)))), (1, .d (.sl (a1.map (cI .i64)))), (5, .i v7), (12, .i (a0.length : Int)), (13, .i v7)] []) Sub.tt ?_
    refine Chain.nil ?_
    refine AW.seqQ (by kernel_rfl) (by kernel_rfl) ?_
    replace h := bsome h; obtain ⟨x22, hx22, h⟩ := h
    obtain ⟨k23, hx22k, hx22, hx22a, hx22b⟩ := idx_some hx22
    replace h := bsome h; obtain ⟨x24, hx24, h⟩ := h
    obtain ⟨hx24, hx24a, hx24b⟩ := idx_some2 hx24 hx22k
    refine Chain.runQ 9 fun K hK => ?_; simp [hx22, hx22a, hx24, hx22k]; refine hK _ _ ?_; clear hK K
    refine Chain.sub (S' := mk 26 [] [(0, .d (.sl (a0.map (cI .i64)))), (1, .d (.sl (a1.map (cI .i64)))), (12, .i (a0.length : Int)), (13, .i v7), (24, .b (x22 != x24))] []) Sub.tt ?_
    refine Chain.nil ?_
    replace h := isome h; rcases h with ⟨c25, h⟩ | ⟨c25, h⟩
    ·have c25_ : (x22 != x24) = true := c25
     refine AW.condT (b := (x22 != x24)) rfl c25_ ?_
     refine AW.sub (Sub.bool 24 (b := (x22 != x24)) rfl c25_) ?_
     refine AW.sub (S' := mk 26 [] [(0, .d (.sl (a0.map (cI .i64)))), (1, .d (.sl (a1.map (cI .i64)))), (12, .i (a0.length : Int)), (13, .i v7), (24, .b true)] []) (by simp; exact Sub.table (by simp) (by simp)) ?_
     refine AW.seqR ?_
     refine Chain.runK [] 1 fun K hK => ?_; simp; refine hK _ _ ?_; clear hK K
     refine Chain.sub (S' := mk 26 [] [(4, .b false)] []) Sub.tt ?_
     refine Chain.nil ?_
     refine AW.ret ?_
     cases h
     refine blockQ.ret ?_
     refine thenQ_pass (by simp) ?_
     refine PostI.out (by simp) ?_
     rintro rfl
     refine blockQ.ret ?_
     refine PostJ.out (by simp) ?_
     rintro rfl
     refine thenQ_pass (by simp) ?_
     exact FinC.ret (by simp) (by simp)
    ·have c25_ : (x22 != x24) = false := Bool.eq_false_iff.2 c25
     refine AW.condF (b := (x22 != x24)) rfl c25_ ?_
     refine AW.sub (Sub.bool 24 (b := (x22 != x24)) rfl c25_) ?_
     refine AW.sub (S' := mk 26 [] [(0, .d (.sl (a0.map (cI .i64)))), (1, .d (.sl (a1.map (cI .i64)))), (12, .i (a0.length : Int)), (13, .i v7), (24, .b false)] []) (by simp; exact Sub.table (by simp) (by simp)) ?_
     refine AW.skip ?_
     refine blockQ.normal ?_
     refine thenQ_normal ?_
     refine AW.region ?_
     replace h := bsome h; obtain ⟨v26, hv26, h⟩ := h
     have hv26 := chkI_some hv26
     refine Chain.runK [] 2 fun K hK => ?_; simp [hv26]; refine hK _ _ ?_; clear hK K
     refine Chain.sub (S' := mk 26 [] [(0, .d (.sl (a0.map (cI .i64)))), (1, .d (.sl (a1.map (cI .i64)))), (12, .i (a0.length : Int)), (13, .i v26)] []) Sub.tt ?_
     refine Chain.nil ?_
     cases h
     refine PostI.next ?_
     exact Sub.tt
   ·have c21_ : decide (v7 < (a0.length : Int)) = false := decide_eq_false c21
    refine AW.condF (b := decide (v7 < (a0.length : Int))) rfl c21_ ?_
    refine AW.sub (Sub.bool 14 (b := decide (v7 < (a0.length : Int))) rfl c21_) ?_
    refine AW.sub (S' := mk 26 [] [(0, .d (.sl (a0.map (cI .i64)))), (1, .d (.sl (a1.map (cI .i64)))), (12, .i (a0.length : Int)), (13, .i v7), (14, .b false)] []) (by simp; exact Sub.table (by simp) (by simp)) ?_
    refine AW.exit ?_
    cases h
    refine thenQ_pass (by simp) ?_
    refine PostI.out (by simp) ?_
    rintro rfl
    refine blockQ.hit ?_
    refine PostJ.next ?_
    exact Sub.tt
  ·rintro ⟨⟩ h
   refine thenQ_normal ?_
   refine AW.seqR ?_
   refine Chain.runK [] 1 fun K hK => ?_; simp; refine hK _ _ ?_; clear hK K
   refine Chain.sub (S' := mk 26 [] [(4, .b true)] []) Sub.tt ?_
   refine Chain.nil ?_
   refine AW.ret ?_
   cases h
   exact FinC.ret (by simp) (by simp)

/-- (*stemma/locks.Manager).WaitsFor$1 -/
def d47 (_N : Nat) (a0 : S29) (a1 : Int) : Option Bool :=
 some (a0.Tx == a1)
set_option maxRecDepth 100000 in
set_option maxHeartbeats 4000000 in
theorem p47 (N : Nat) (a0 : S29) (a1 : Int) (r : Bool) (h : d47 N a0 a1 = some r) : FunC Try.prog 47 [.agg [.i a0.Tx, .d (.lit (.string a0.Table)), .d (.lit (.string a0.Key)), .i a0.Mode], .d (.pim [.lit (.int .i64 a1)])] (.b r) := by
 unfold d47 at h
 refine FunC.enter 8 [(0, .agg [.i a0.Tx, .d (.lit (.string a0.Table)), .d (.lit (.string a0.Key)), .i a0.Mode]), (1, .d (.pim [.lit (.int .i64 a1)]))] (by simp) Try.func47 rfl (of_decide_eq_true rfl) rfl rfl ?_
 refine AW.seqR ?_
 refine Chain.runK [] 2 fun K hK => ?_; simp; refine hK _ _ ?_; clear hK K
 refine Chain.sub (S' := mk 8 [] [(1, .d (.pim [.lit (.int .i64 a1)])), (2, .ptr 2 0 0)] [(2, some (.box [.i a0.Tx, .d (.lit (.string a0.Table)), .d (.lit (.string a0.Key)), .i a0.Mode]))]) Sub.tt ?_
 refine Chain.nil ?_
 refine AW.seqR ?_
 refine Chain.runK [] 5 fun K hK => ?_; simp; refine hK _ _ ?_; clear hK K
 refine Chain.sub (S' := mk 8 [] [(3, .b (a0.Tx == a1))] []) Sub.tt ?_
 refine Chain.nil ?_
 refine AW.ret ?_
 cases h
 exact FinC.ret (by simp) (by simp)

/-- (*stemma/locks.Manager).WaitsFor -/
def d33 (N : Nat) (a0 : S48) (a1 : Int) : Option (S48 × (List Int) × Int) :=
 (d37 N a0.queue (fun b0 => d47 N b0 a1)).bind fun r1 =>
 if r1 < 0 then (
  some (a0, ([] : List Int), 4)
 ) else
 (idx a0.queue r1).bind fun x3 =>
 (d20 N a0 x3 r1).bind fun r5 =>
 some (a0, r5, 0)
set_option maxRecDepth 100000 in
set_option maxHeartbeats 4000000 in
theorem p33 (N : Nat) (a0 : S48) (a1 : Int) (r : (S48 × (List Int) × Int)) (h : d33 N a0 a1 = some r) : FunM Try.prog 33 [.ptr 1000 0 0, .i a1] [(1000, some (.box [.ref 25000 0 a0.granted.length, .ref 25001 0 a0.queue.length])), (25000, R29 a0.granted), (25001, R29 a0.queue)] [1000] (.tup [.d (.sl (r.2.1.map (cI .i64))), .i r.2.2]) ([(1000, (.box [.ref 25000 0 r.1.granted.length, .ref 25001 0 r.1.queue.length])), (25000, (.arr 29 4 (r.1.granted.map cS29))), (25001, (.arr 29 4 (r.1.queue.map cS29)))]) := by
 unfold d33 at h
 refine FunM.enter 25 [(0, .ptr 1000 0 0), (1, .i a1)] Try.func33 rfl (of_decide_eq_true rfl) rfl rfl ?_
 refine AW.seqR ?_
 refine Chain.runK [] 3 fun K hK => ?_; simp; refine hK _ _ ?_; clear hK K
 refine Chain.sub (S' := mk 25 [1000] [(0, .ptr 1000 0 0), (3, .ptr 3 0 0)] [(3, some (.box [.i a1])), (1000, some (.box [.ref 25000 0 a0.granted.length, .ref 25001 0 a0.queue.length])), (25000, R29 a0.granted), (25001, R29 a0.queue)]) Sub.tt ?_
 refine Chain.nil ?_
 refine AW.seqR ?_
 refine Chain.runK [] 5 fun K hK => ?_; simp; refine hK _ _ ?_; clear hK K
 refine Chain.sub (S' := mk 25 [1000] [(0, .ptr 1000 0 0), (10, .ref 25001 0 a0.queue.length), (11, .fn (.func 47) [.ptr 3 0 0])] [(3, some (.box [.i a1])), (1000, some (.box [.ref 25000 0 a0.granted.length, .ref 25001 0 a0.queue.length])), (25000, R29 a0.granted), (25001, R29 a0.queue)]) Sub.tt ?_
 replace h := bsome h; obtain ⟨r1, hr1, h⟩ := h
 refine Chain.callL (d := 12) (p37 N a0.queue 47 [.pim [.lit (.int .i64 a1)]] (fun b0 => d47 N b0 a1) ent47 (fun b0 r h => p47 N b0 a1 r h) r1 hr1) (by simp) rfl rfl (by simp <;> rfl) (by simp <;> rfl) ent37 (by simp <;> rfl) ?_
 refine Chain.sub (S' := mk 25 [1000] [(0, .ptr 1000 0 0), (10, .ref 25001 0 a0.queue.length), (11, .fn (.func 47) [.ptr 3 0 0]), (12, .i r1)] [(3, some (.box [.i a1])), (1000, some (.box [.ref 25000 0 a0.granted.length, .ref 25001 0 a0.queue.length])), (25000, R29 a0.granted), (25001, R29 a0.queue)]) (by simp; exact Sub.table (by simp) (by simp)) ?_
 refine Chain.runK [] 1 fun K hK => ?_; simp; refine hK _ _ ?_; clear hK K
 refine Chain.sub (S' := mk 25 [1000] [(0, .ptr 1000 0 0), (6, .i r1)] [(1000, some (.box [.ref 25000 0 a0.granted.length, .ref 25001 0 a0.queue.length])), (25000, R29 a0.granted), (25001, R29 a0.queue)]) Sub.tt ?_
 refine Chain.nil ?_
 refine AW.seq ?_
 refine AW.seqR ?_
 refine Chain.runK [] 2 fun K hK => ?_; simp; refine hK _ _ ?_; clear hK K
 refine Chain.sub (S' := mk 25 [1000] [(0, .ptr 1000 0 0), (6, .i r1), (14, .b (decide (r1 < 0)))] [(1000, some (.box [.ref 25000 0 a0.granted.length, .ref 25001 0 a0.queue.length])), (25000, R29 a0.granted), (25001, R29 a0.queue)]) Sub.tt ?_
 refine Chain.nil ?_
 replace h := isome h; rcases h with ⟨c2, h⟩ | ⟨c2, h⟩
 ·have c2_ : decide (r1 < 0) = true := decide_eq_true c2
  refine AW.condT (b := decide (r1 < 0)) rfl c2_ ?_
  refine AW.sub (Sub.bool 14 (b := decide (r1 < 0)) rfl c2_) ?_
  refine AW.sub (S' := mk 25 [1000] [(0, .ptr 1000 0 0), (6, .i r1), (14, .b true)] [(1000, some (.box [.ref 25000 0 a0.granted.length, .ref 25001 0 a0.queue.length])), (25000, R29 a0.granted), (25001, R29 a0.queue)]) (by simp; exact Sub.table (by simp) (by simp)) ?_
  refine AW.seqR ?_
  refine Chain.runK [] 2 fun K hK => ?_; simp; refine hK _ _ ?_; clear hK K
  refine Chain.sub (S' := mk 25 [1000] [(4, .d (.lit (.slice none 0 0))), (5, .i 4)] [(1000, some (.box [.ref 25000 0 a0.granted.length, .ref 25001 0 a0.queue.length])), (25000, R29 a0.granted), (25001, R29 a0.queue)]) Sub.tt ?_
  refine Chain.nil ?_
  refine AW.sub (Sub.wk 4 rfl) ?_
  refine AW.sub (S' := mk 25 [1000] [(4, .d (.sl (([] : List Int).map (cI .i64)))), (5, .i 4)] [(1000, some (.box [.ref 25000 0 a0.granted.length, .ref 25001 0 a0.queue.length])), (25000, R29 a0.granted), (25001, R29 a0.queue)]) (by simp; exact Sub.table (by simp) (by simp)) ?_
  refine AW.ret ?_
  cases h
  refine thenQ_pass (by simp) ?_
  exact FinF.ret (by simp) (by simp)
 ·have c2_ : decide (r1 < 0) = false := decide_eq_false c2
  refine AW.condF (b := decide (r1 < 0)) rfl c2_ ?_
  refine AW.sub (Sub.bool 14 (b := decide (r1 < 0)) rfl c2_) ?_
  refine AW.sub (S' := mk 25 [1000] [(0, .ptr 1000 0 0), (6, .i r1), (14, .b false)] [(1000, some (.box [.ref 25000 0 a0.granted.length, .ref 25001 0 a0.queue.length])), (25000, R29 a0.granted), (25001, R29 a0.queue)]) (by simp; exact Sub.table (by simp) (by simp)) ?_
  refine AW.skip ?_
  refine thenQ_normal ?_
  refine AW.seqR ?_
  replace h := bsome h; obtain ⟨x3, hx3, h⟩ := h
  obtain ⟨k4, hx3k, hx3, hx3a, hx3b⟩ := idx_some hx3
  refine Chain.runK [] 9 fun K hK => ?_; simp [hx3, hx3k, hx3a, hx3b]; refine hK _ _ ?_; clear hK K
  refine Chain.sub (S' := mk 25 [1000] [(15, .ptr 1000 0 0), (22, .agg [.i x3.Tx, .d (.lit (.string x3.Table)), .d (.lit (.string x3.Key)), .i x3.Mode]), (23, .i r1)] [(1000, some (.box [.ref 25000 0 a0.granted.length, .ref 25001 0 a0.queue.length])), (25000, R29 a0.granted), (25001, R29 a0.queue)]) Sub.tt ?_
  replace h := bsome h; obtain ⟨r5, hr5, h⟩ := h
  refine Chain.callOF (d := 24) (p20 N a0 x3 r1 r5 hr5) (by simp) rfl rfl (by simp <;> rfl) (by simp <;> rfl) ent20 (by simp) (fun r h => flat_of_ren r h) (flat_map (by simp [cI]) _) ?_
  refine Chain.sub (S' := mk 25 [1000] [(15, .ptr 1000 0 0), (22, .agg [.i x3.Tx, .d (.lit (.string x3.Table)), .d (.lit (.string x3.Key)), .i x3.Mode]), (23, .i r1), (24, .ref 24 0 r5.length)] [(24, R3 r5), (1000, some (.box [.ref 25000 0 a0.granted.length, .ref 25001 0 a0.queue.length])), (25000, R29 a0.granted), (25001, R29 a0.queue)]) (by simp; exact Sub.table (by simp) (by simp)) ?_
  refine Chain.runK [] 2 fun K hK => ?_; simp; refine hK _ _ ?_; clear hK K
  refine Chain.sub (S' := mk 25 [1000] [(4, .ref 24 0 r5.length), (5, .i 0)] [(24, R3 r5), (1000, some (.box [.ref 25000 0 a0.granted.length, .ref 25001 0 a0.queue.length])), (25000, R29 a0.granted), (25001, R29 a0.queue)]) Sub.tt ?_
  refine Chain.nil ?_
  refine AW.sub (Sub.freeze 24 rfl) ?_
  refine AW.sub (S' := mk 25 [1000] [(4, .d (.sl (r5.map (cI .i64)))), (5, .i 0)] [(1000, some (.box [.ref 25000 0 a0.granted.length, .ref 25001 0 a0.queue.length])), (25000, R29 a0.granted), (25001, R29 a0.queue)]) (by simp; exact Sub.table (by simp) (by simp)) ?_
  refine AW.ret ?_
  cases h
  exact FinF.ret (by simp) (by simp)

end Go.Proofs.Ytdiekinmoklonaa
