/- Functions of the program as functional programs; the code computes them. -/
import Derived.Test.YtifcmomjjkbboacMv3
namespace Go.Proofs.Ytifcmomjjkbboac
open Go.Ab Go.Rp
attribute [-simp] List.all_eq_true Array.all_toList Array.all_eq_true

/-- (*stemma/mvcc.Store).Vacuum -/
def d13 (N : Nat) (a0 : S63) (a1 : Int) : Option (S63 × Int) :=
 Option.bind (α := Bool) (
  if a1 < 0 then (
   some true
  ) else
  some (decide (a1 > 1099511627776))
 ) fun (v2 : Bool) =>
 if v2 = true then (
  some (a0, 1)
 ) else
 if a1 ≤ a0.horizon then (
  some (a0, 0)
 ) else
 Option.bind (α := List S72) (
  iterN (σ := ((List S72) × Int)) (ρ := List S72) (fun ((l80, v81) : ((List S72) × Int)) =>
   if v81 < (a0.chains.length : Int) then (
    (idx a0.chains v81).bind fun x238 =>
    Option.bind (α := Int) (
     iterN (σ := Int) (ρ := Int) (fun (v251 : Int) =>
      Option.bind (α := Bool) (
       (chkI (v251 + 1)).bind fun v286 =>
       if v286 < (x238.versions.length : Int) then (
        (chkI (v251 + 1)).bind fun v288 =>
        (idx x238.versions v288).bind fun x289 =>
        some (decide (x289.timestamp ≤ a1))
       ) else
       some false
      ) fun (v285 : Bool) =>
      if v285 = true then (
       (chkI (v251 + 1)).bind fun v292 =>
       some (.inl v292)
      ) else
      some (.inr v251)
     ) N 0
    ) fun (v279 : Int) =>
    Option.bind (α := Bool) (
     (idx x238.versions v279).bind fun x297 =>
     if x297.timestamp ≤ a1 then (
      some x297.tombstone
     ) else
     some false
    ) fun (v296 : Bool) =>
    Option.bind (α := Int) (
     if v296 = true then (
      (chkI (v279 + 1)).bind fun v304 =>
      some v304
     ) else
     some v279
    ) fun (v302 : Int) =>
    if v302 < (x238.versions.length : Int) then (
     (natI v302 x238.versions.length).bind fun n306 =>
     letv (x238.versions.drop n306) fun l307 =>
     (d27 N l307).bind fun r308 =>
     letv ([(S72.mk x238.key r308)] : List S72) fun l309 =>
     (appL 40 l80 l309).bind fun _l310 =>
     (chkI (v81 + 1)).bind fun v311 =>
     some (.inl ((l80 ++ l309), v311))
    ) else
    (chkI (v81 + 1)).bind fun v312 =>
    some (.inl (l80, v312))
   ) else
   some (.inr l80)
  ) N (([] : List S72), 0)
 ) fun (l236 : List S72) =>
 some ((S63.mk l236 a1), 0)
set_option maxRecDepth 100000 in
set_option maxHeartbeats 4000000 in
theorem p13 (N : Nat) (a0 : S63) (a1 : Int) (r : (S63 × Int)) (h : d13 N a0 a1 = some r) : FunM Try.prog 13 [.ptr 1000 0 0, .i a1] [(1000, some (.box [.ref 25000 0 a0.chains.length, .i a0.horizon])), (25000, some (.nest 72 2 [none, some (67, 3)] (a0.chains.map cS72) []))] [1000] (.i r.2) ([(1000, (.box [.ref 25000 0 r.1.chains.length, .i r.1.horizon])), (25000, (.nest 72 2 [none, some (67, 3)] (r.1.chains.map cS72) []))]) := by
 unfold d13 at h
 refine FunM.enter 92 [(0, .ptr 1000 0 0), (1, .i a1)] Try.func13 rfl (of_decide_eq_true rfl) rfl rfl ?_
 refine AW.seqR ?_
 refine Chain.runK [] 1 fun K hK => ?_; simp; refine hK _ _ ?_; clear hK K
 refine Chain.sub (S' := mk 92 [1000] [(0, .ptr 1000 0 0), (1, .i a1)] [(1000, some (.box [.ref 25000 0 a0.chains.length, .i a0.horizon])), (25000, some (.nest 72 2 [none, some (67, 3)] (a0.chains.map cS72) []))]) Sub.tt ?_
 refine Chain.nil ?_
 refine AW.seq ?_
 replace h := bsome h; obtain ⟨v2, hj, h⟩ := h
 refine AW.cutR (mk 92 [1000] [(0, .ptr 1000 0 0), (1, .i a1), (14, .b v2)] [(1000, some (.box [.ref 25000 0 a0.chains.length, .i a0.horizon])), (25000, some (.nest 72 2 [none, some (67, 3)] (a0.chains.map cS72) []))]) ?_ ?_
 ·clear h; have h := hj; clear hj
  refine Chain.runK [] 3 fun K hK => ?_; simp; refine hK _ _ ?_; clear hK K
  refine Chain.sub (S' := mk 92 [1000] [(0, .ptr 1000 0 0), (1, .i a1), (11, .b (decide (a1 < 0)))] [(1000, some (.box [.ref 25000 0 a0.chains.length, .i a0.horizon])), (25000, some (.nest 72 2 [none, some (67, 3)] (a0.chains.map cS72) []))]) Sub.tt ?_
  replace h := isome h; rcases h with ⟨c3, h⟩ | ⟨c3, h⟩
  ·have c3_ : decide (a1 < 0) = true := decide_eq_true c3
   refine Chain.sub (Sub.bool 11 (b := decide (a1 < 0)) rfl c3_) ?_
   refine Chain.sub (S' := mk 92 [1000] [(0, .ptr 1000 0 0), (1, .i a1), (11, .b true)] [(1000, some (.box [.ref 25000 0 a0.chains.length, .i a0.horizon])), (25000, some (.nest 72 2 [none, some (67, 3)] (a0.chains.map cS72) []))]) (by simp; exact Sub.table (by simp) (by simp)) ?_
   refine Chain.runK [] 3 fun K hK => ?_; simp; refine hK _ _ ?_; clear hK K
   refine Chain.sub (S' := mk 92 [1000] [(0, .ptr 1000 0 0), (1, .i a1), (14, .b true)] [(1000, some (.box [.ref 25000 0 a0.chains.length, .i a0.horizon])), (25000, some (.nest 72 2 [none, some (67, 3)] (a0.chains.map cS72) []))]) Sub.tt ?_
   cases h
   exact Chain.nil Sub.tt
  ·have c3_ : decide (a1 < 0) = false := decide_eq_false c3
   refine Chain.sub (Sub.bool 11 (b := decide (a1 < 0)) rfl c3_) ?_
   refine Chain.sub (S' := mk 92 [1000] [(0, .ptr 1000 0 0), (1, .i a1), (11, .b false)] [(1000, some (.box [.ref 25000 0 a0.chains.length, .i a0.horizon])), (25000, some (.nest 72 2 [none, some (67, 3)] (a0.chains.map cS72) []))]) (by simp; exact Sub.table (by simp) (by simp)) ?_
   refine Chain.runK [] 3 fun K hK => ?_; simp; refine hK _ _ ?_; clear hK K
   refine Chain.sub (S' := mk 92 [1000] [(0, .ptr 1000 0 0), (1, .i a1), (14, .b (decide (a1 > 1099511627776)))] [(1000, some (.box [.ref 25000 0 a0.chains.length, .i a0.horizon])), (25000, some (.nest 72 2 [none, some (67, 3)] (a0.chains.map cS72) []))]) Sub.tt ?_
   cases h
   exact Chain.nil Sub.tt
 ·clear hj
  replace h := isome h; rcases h with ⟨c4, h⟩ | ⟨c4, h⟩
  ·have c4_ : v2 = true := c4
   refine AW.condT (b := v2) rfl c4_ ?_
   refine AW.sub (Sub.bool 14 (b := v2) rfl c4_) ?_
   refine AW.sub (S' := mk 92 [1000] [(0, .ptr 1000 0 0), (1, .i a1), (14, .b true)] [(1000, some (.box [.ref 25000 0 a0.chains.length, .i a0.horizon])), (25000, some (.nest 72 2 [none, some (67, 3)] (a0.chains.map cS72) []))]) (by simp; exact Sub.table (by simp) (by simp)) ?_
   refine AW.seqR ?_
   refine Chain.runK [] 1 fun K hK => ?_; simp; refine hK _ _ ?_; clear hK K
   refine Chain.sub (S' := mk 92 [1000] [(4, .i 1)] [(1000, some (.box [.ref 25000 0 a0.chains.length, .i a0.horizon])), (25000, some (.nest 72 2 [none, some (67, 3)] (a0.chains.map cS72) []))]) Sub.tt ?_
   refine Chain.nil ?_
   refine AW.ret ?_
   cases h
   refine thenQ_pass (by simp) ?_
   exact FinF.ret (by simp) (by simp)
  ·have c4_ : v2 = false := Bool.eq_false_iff.2 c4
   refine AW.condF (b := v2) rfl c4_ ?_
   refine AW.sub (Sub.bool 14 (b := v2) rfl c4_) ?_
   refine AW.sub (S' := mk 92 [1000] [(0, .ptr 1000 0 0), (1, .i a1), (14, .b false)] [(1000, some (.box [.ref 25000 0 a0.chains.length, .i a0.horizon])), (25000, some (.nest 72 2 [none, some (67, 3)] (a0.chains.map cS72) []))]) (by simp; exact Sub.table (by simp) (by simp)) ?_
   refine AW.skip ?_
   refine thenQ_normal ?_
   refine AW.seq ?_
   refine AW.seqR ?_
   refine Chain.runK [] 6 fun K hK => ?_; simp; refine hK _ _ ?_; clear hK K
   refine Chain.sub (S' := mk 92 [1000] [(0, .ptr 1000 0 0), (1, .i a1), (20, .b (decide (a1 ≤ a0.horizon)))] [(1000, some (.box [.ref 25000 0 a0.chains.length, .i a0.horizon])), (25000, some (.nest 72 2 [none, some (67, 3)] (a0.chains.map cS72) []))]) Sub.tt ?_
   refine Chain.nil ?_
   replace h := isome h; rcases h with ⟨c5, h⟩ | ⟨c5, h⟩
   ·have c5_ : decide (a1 ≤ a0.horizon) = true := decide_eq_true c5
    refine AW.condT (b := decide (a1 ≤ a0.horizon)) rfl c5_ ?_
    refine AW.sub (Sub.bool 20 (b := decide (a1 ≤ a0.horizon)) rfl c5_) ?_
    refine AW.sub (S' := mk 92 [1000] [(0, .ptr 1000 0 0), (1, .i a1), (20, .b true)] [(1000, some (.box [.ref 25000 0 a0.chains.length, .i a0.horizon])), (25000, some (.nest 72 2 [none, some (67, 3)] (a0.chains.map cS72) []))]) (by simp; exact Sub.table (by simp) (by simp)) ?_
    refine AW.seqR ?_
    refine Chain.runK [] 1 fun K hK => ?_; simp; refine hK _ _ ?_; clear hK K
    refine Chain.sub (S' := mk 92 [1000] [(4, .i 0)] [(1000, some (.box [.ref 25000 0 a0.chains.length, .i a0.horizon])), (25000, some (.nest 72 2 [none, some (67, 3)] (a0.chains.map cS72) []))]) Sub.tt ?_
    refine Chain.nil ?_
    refine AW.ret ?_
    cases h
    refine thenQ_pass (by simp) ?_
    exact FinF.ret (by simp) (by simp)
   ·have c5_ : decide (a1 ≤ a0.horizon) = false := decide_eq_false c5
    refine AW.condF (b := decide (a1 ≤ a0.horizon)) rfl c5_ ?_
    refine AW.sub (Sub.bool 20 (b := decide (a1 ≤ a0.horizon)) rfl c5_) ?_
    refine AW.sub (S' := mk 92 [1000] [(0, .ptr 1000 0 0), (1, .i a1), (20, .b false)] [(1000, some (.box [.ref 25000 0 a0.chains.length, .i a0.horizon])), (25000, some (.nest 72 2 [none, some (67, 3)] (a0.chains.map cS72) []))]) (by simp; exact Sub.table (by simp) (by simp)) ?_
    refine AW.skip ?_
    refine thenQ_normal ?_
    refine AW.seqR ?_
    refine Chain.runK [] 5 fun K hK => ?_; simp; refine hK _ _ ?_; clear hK K
    refine Chain.sub (S' := mk 92 [1000] [(0, .ptr 1000 0 0), (1, .i a1)] [(1000, some (.box [.ref 25000 0 a0.chains.length, .i a1])), (25000, some (.nest 72 2 [none, some (67, 3)] (a0.chains.map cS72) []))]) Sub.tt ?_
    refine Chain.nil ?_
    refine AW.seqR ?_
    refine Chain.runK [] 1 fun K hK => ?_; simp; refine hK _ _ ?_; clear hK K
    refine Chain.sub (S' := mk 92 [1000] [(0, .ptr 1000 0 0), (1, .i a1), (5, .d (.lit (.slice none 0 0)))] [(1000, some (.box [.ref 25000 0 a0.chains.length, .i a1])), (25000, some (.nest 72 2 [none, some (67, 3)] (a0.chains.map cS72) []))]) Sub.tt ?_
    refine Chain.nil ?_
    refine AW.seq ?_
    refine AW.seqR ?_
    refine Chain.runK [] 6 fun K hK => ?_; simp; refine hK _ _ ?_; clear hK K
    refine Chain.sub (S' := mk 92 [1000] [(0, .ptr 1000 0 0), (1, .i a1), (5, .d (.lit (.slice none 0 0))), (28, .ref 25000 0 a0.chains.length), (29, .i (a0.chains.length : Int)), (30, .i 0)] [(1000, some (.box [.ref 25000 0 a0.chains.length, .i a1])), (25000, some (.nest 72 2 [none, some (67, 3)] (a0.chains.map cS72) []))]) Sub.tt ?_
    refine Chain.nil ?_
    refine AW.lastN (fun (l236 : List S72) => mk 92 [1000] [(0, .ptr 1000 0 0), (5, .ref 86 0 l236.length)] [(86, some (.nest 72 2 [none, some (67, 3)] (l236.map cS72) [])), (1000, some (.box [.d (.sl (a0.chains.map cS72)), .i a1]))]) h ?_ ?_ <;> clear h
    ·intro o h
     refine AW.block ?_
     refine AW.iter (fun ((l80, v81) : ((List S72) × Int)) => mk 92 [1000] [(0, .ptr 1000 0 0), (1, .i a1), (5, .ref 86 0 l80.length), (28, .d (.sl (a0.chains.map cS72))), (29, .i (a0.chains.length : Int)), (30, .i v81)] [(86, some (.nest 72 2 [none, some (67, 3)] (l80.map cS72) [])), (1000, some (.box [.d (.sl (a0.chains.map cS72)), .i a1]))]) h (Sub.trans (Sub.nilOwnN (t := 5) (id := 86) (T := 72) (n := 2) [none, some (67, 3)] rfl rfl (by decide) rfl) (by simp; exact (Sub.trans (Sub.freezeN 25000 rfl rfl) (by simp; exact Sub.table (by simp) (by simp))))) ?_
     clear h
     rintro ⟨l80, v81⟩ x h
     dsimp only at h ⊢
     refine AW.seqR ?_
     refine Chain.runK [] 1 fun K hK => ?_; simp; refine hK _ _ ?_; clear hK K
     refine Chain.sub (S' := mk 92 [1000] [(0, .ptr 1000 0 0), (1, .i a1), (5, .ref 86 0 l80.length), (28, .d (.sl (a0.chains.map cS72))), (29, .i (a0.chains.length : Int)), (30, .i v81), (31, .b (decide (v81 < (a0.chains.length : Int))))] [(86, some (.nest 72 2 [none, some (67, 3)] (l80.map cS72) [])), (1000, some (.box [.d (.sl (a0.chains.map cS72)), .i a1]))]) Sub.tt ?_
     refine Chain.nil ?_
     refine AW.seq ?_
     replace h := isome h; rcases h with ⟨c237, h⟩ | ⟨c237, h⟩
     ·have c237_ : decide (v81 < (a0.chains.length : Int)) = true := decide_eq_true c237
      refine AW.condT (b := decide (v81 < (a0.chains.length : Int))) rfl c237_ ?_
      refine AW.sub (Sub.bool 31 (b := decide (v81 < (a0.chains.length : Int))) rfl c237_) ?_
      refine AW.sub (S' := mk 92 [1000] [(0, .ptr 1000 0 0), (1, .i a1), (5, .ref 86 0 l80.length), (28, .d (.sl (a0.chains.map cS72))), (29, .i (a0.chains.length : Int)), (30, .i v81), (31, .b true)] [(86, some (.nest 72 2 [none, some (67, 3)] (l80.map cS72) [])), (1000, some (.box [.d (.sl (a0.chains.map cS72)), .i a1]))]) (by simp; exact Sub.table (by simp) (by simp)) ?_
      refine AW.skip ?_
      refine thenQ_normal ?_
      refine AW.seq ?_
      refine AW.block ?_
      refine AW.seqR ?_
      replace h := bsome h; obtain ⟨x238, hx238, h⟩ := h
      obtain ⟨k239, hx238k, hx238, hx238a, hx238b⟩ := idx_some hx238
      refine Chain.runK [] 4 fun K hK => ?_; simp [hx238, hx238k, hx238a]; refine hK _ _ ?_; clear hK K
      refine Chain.sub (S' := mk 92 [1000] [(0, .ptr 1000 0 0), (1, .i a1), (5, .ref 86 0 l80.length), (7, .ptr 7 0 0), (28, .d (.sl (a0.chains.map cS72))), (29, .i (a0.chains.length : Int)), (30, .i v81)] [(7, some (.box [.d (.lit (.string x238.key)), .d (.sl (x238.versions.map cS67))])), (86, some (.nest 72 2 [none, some (67, 3)] (l80.map cS72) [])), (1000, some (.box [.d (.sl (a0.chains.map cS72)), .i a1]))]) Sub.tt ?_
      refine Chain.nil ?_
      refine AW.seqR ?_
      refine Chain.runK [] 1 fun K hK => ?_; simp; refine hK _ _ ?_; clear hK K
      refine Chain.sub (S' := mk 92 [1000] [(0, .ptr 1000 0 0), (1, .i a1), (5, .ref 86 0 l80.length), (7, .ptr 7 0 0), (8, .i 0), (28, .d (.sl (a0.chains.map cS72))), (29, .i (a0.chains.length : Int)), (30, .i v81)] [(7, some (.box [.d (.lit (.string x238.key)), .d (.sl (x238.versions.map cS67))])), (86, some (.nest 72 2 [none, some (67, 3)] (l80.map cS72) [])), (1000, some (.box [.d (.sl (a0.chains.map cS72)), .i a1]))]) Sub.tt ?_
      refine Chain.nil ?_
      refine AW.seqN (fun (v279 : Int) => mk 92 [1000] [(0, .ptr 1000 0 0), (1, .i a1), (5, .ref 86 0 l80.length), (7, .ptr 7 0 0), (8, .i v279), (28, .d (.sl (a0.chains.map cS72))), (29, .i (a0.chains.length : Int)), (30, .i v81)] [(7, some (.box [.d (.lit (.string x238.key)), .d (.sl (x238.versions.map cS67))])), (86, some (.nest 72 2 [none, some (67, 3)] (l80.map cS72) [])), (1000, some (.box [.d (.sl (a0.chains.map cS72)), .i a1]))]) h ?_ ?_ <;> clear h
      ·intro o h
       refine AW.block ?_
       refine AW.iter (fun (v251 : Int) => mk 92 [1000] [(0, .ptr 1000 0 0), (1, .i a1), (5, .ref 86 0 l80.length), (7, .ptr 7 0 0), (8, .i v251), (28, .d (.sl (a0.chains.map cS72))), (29, .i (a0.chains.length : Int)), (30, .i v81)] [(7, some (.box [.d (.lit (.string x238.key)), .d (.sl (x238.versions.map cS67))])), (86, some (.nest 72 2 [none, some (67, 3)] (l80.map cS72) [])), (1000, some (.box [.d (.sl (a0.chains.map cS72)), .i a1]))]) h Sub.tt ?_
       clear h
       rintro v251 x h
       refine AW.seq ?_
       replace h := bsome h; obtain ⟨v285, hj, h⟩ := h
       refine AW.cutR (mk 92 [1000] [(0, .ptr 1000 0 0), (1, .i a1), (5, .ref 86 0 l80.length), (7, .ptr 7 0 0), (8, .i v251), (28, .d (.sl (a0.chains.map cS72))), (29, .i (a0.chains.length : Int)), (30, .i v81), (50, .b v285)] [(7, some (.box [.d (.lit (.string x238.key)), .d (.sl (x238.versions.map cS67))])), (86, some (.nest 72 2 [none, some (67, 3)] (l80.map cS72) [])), (1000, some (.box [.d (.sl (a0.chains.map cS72)), .i a1]))]) ?_ ?_
       ·clear h; have h := hj; clear hj
        replace h := bsome h; obtain ⟨v286, hv286, h⟩ := h
        have hv286 := chkI_some hv286
        refine Chain.runK [] 7 fun K hK => ?_; simp [hv286]; refine hK _ _ ?_; clear hK K
        refine Chain.sub (S' := mk 92 [1000] [(0, .ptr 1000 0 0), (1, .i a1), (5, .ref 86 0 l80.length), (7, .ptr 7 0 0), (8, .i v251), (28, .d (.sl (a0.chains.map cS72))), (29, .i (a0.chains.length : Int)), (30, .i v81), (40, .b (decide (v286 < (x238.versions.length : Int))))] [(7, some (.box [.d (.lit (.string x238.key)), .d (.sl (x238.versions.map cS67))])), (86, some (.nest 72 2 [none, some (67, 3)] (l80.map cS72) [])), (1000, some (.box [.d (.sl (a0.chains.map cS72)), .i a1]))]) Sub.tt ?_
        replace h := isome h; rcases h with ⟨c287, h⟩ | ⟨c287, h⟩
        ·have c287_ : decide (v286 < (x238.versions.length : Int)) = true := decide_eq_true c287
         refine Chain.sub (Sub.bool 40 (b := decide (v286 < (x238.versions.length : Int))) rfl c287_) ?_
         refine Chain.sub (S' := mk 92 [1000] [(0, .ptr 1000 0 0), (1, .i a1), (5, .ref 86 0 l80.length), (7, .ptr 7 0 0), (8, .i v251), (28, .d (.sl (a0.chains.map cS72))), (29, .i (a0.chains.length : Int)), (30, .i v81), (40, .b true)] [(7, some (.box [.d (.lit (.string x238.key)), .d (.sl (x238.versions.map cS67))])), (86, some (.nest 72 2 [none, some (67, 3)] (l80.map cS72) [])), (1000, some (.box [.d (.sl (a0.chains.map cS72)), .i a1]))]) (by simp; exact Sub.table (by simp) (by simp)) ?_
         replace h := bsome h; obtain ⟨v288, hv288, h⟩ := h
         have hv288 := chkI_some hv288
         replace h := bsome h; obtain ⟨x289, hx289, h⟩ := h
         obtain ⟨k290, hx289k, hx289, hx289a, hx289b⟩ := idx_some hx289
         refine Chain.runK [] 10 fun K hK => ?_; simp [hv288, hx289, hx289k, hx289a]; refine hK _ _ ?_; clear hK K
         refine Chain.sub (S' := mk 92 [1000] [(0, .ptr 1000 0 0), (1, .i a1), (5, .ref 86 0 l80.length), (7, .ptr 7 0 0), (8, .i v251), (28, .d (.sl (a0.chains.map cS72))), (29, .i (a0.chains.length : Int)), (30, .i v81), (41, .ptr 7 0 1), (42, .d (.sl (x238.versions.map cS67))), (43, .i v251), (44, .i v288), (45, .d (.pim [.lit (.int .i64 x289.timestamp), .lit (.bool x289.tombstone), .sl (x289.row.map cS53)])), (46, .d (.pim [.lit (.int .i64 x289.timestamp), .lit (.bool x289.tombstone), .sl (x289.row.map cS53)])), (47, .i x289.timestamp), (48, .i a1), (49, .b (decide (x289.timestamp ≤ a1))), (50, .b (decide (x289.timestamp ≤ a1)))] [(7, some (.box [.d (.lit (.string x238.key)), .d (.sl (x238.versions.map cS67))])), (86, some (.nest 72 2 [none, some (67, 3)] (l80.map cS72) [])), (1000, some (.box [.d (.sl (a0.chains.map cS72)), .i a1]))]) Sub.tt ?_
         cases h
         exact Chain.nil Sub.tt
        ·have c287_ : decide (v286 < (x238.versions.length : Int)) = false := decide_eq_false c287
         refine Chain.sub (Sub.bool 40 (b := decide (v286 < (x238.versions.length : Int))) rfl c287_) ?_
         refine Chain.sub (S' := mk 92 [1000] [(0, .ptr 1000 0 0), (1, .i a1), (5, .ref 86 0 l80.length), (7, .ptr 7 0 0), (8, .i v251), (28, .d (.sl (a0.chains.map cS72))), (29, .i (a0.chains.length : Int)), (30, .i v81), (40, .b false)] [(7, some (.box [.d (.lit (.string x238.key)), .d (.sl (x238.versions.map cS67))])), (86, some (.nest 72 2 [none, some (67, 3)] (l80.map cS72) [])), (1000, some (.box [.d (.sl (a0.chains.map cS72)), .i a1]))]) (by simp; exact Sub.table (by simp) (by simp)) ?_
         refine Chain.runK [] 10 fun K hK => ?_; simp; refine hK _ _ ?_; clear hK K
         refine Chain.sub (S' := mk 92 [1000] [(0, .ptr 1000 0 0), (1, .i a1), (5, .ref 86 0 l80.length), (7, .ptr 7 0 0), (8, .i v251), (28, .d (.sl (a0.chains.map cS72))), (29, .i (a0.chains.length : Int)), (30, .i v81), (41, .tup []), (42, .tup []), (43, .tup []), (44, .tup []), (45, .tup []), (46, .tup []), (47, .tup []), (48, .tup []), (49, .tup []), (50, .b false)] [(7, some (.box [.d (.lit (.string x238.key)), .d (.sl (x238.versions.map cS67))])), (86, some (.nest 72 2 [none, some (67, 3)] (l80.map cS72) [])), (1000, some (.box [.d (.sl (a0.chains.map cS72)), .i a1]))]) Sub.tt ?_
         cases h
         exact Chain.nil Sub.tt
       ·clear hj
        replace h := isome h; rcases h with ⟨c291, h⟩ | ⟨c291, h⟩
        ·have c291_ : v285 = true := c291
         refine AW.condT (b := v285) rfl c291_ ?_
         refine AW.sub (Sub.bool 50 (b := v285) rfl c291_) ?_
         refine AW.sub (S' := mk 92 [1000] [(0, .ptr 1000 0 0), (1, .i a1), (5, .ref 86 0 l80.length), (7, .ptr 7 0 0), (8, .i v251), (28, .d (.sl (a0.chains.map cS72))), (29, .i (a0.chains.length : Int)), (30, .i v81), (50, .b true)] [(7, some (.box [.d (.lit (.string x238.key)), .d (.sl (x238.versions.map cS67))])), (86, some (.nest 72 2 [none, some (67, 3)] (l80.map cS72) [])), (1000, some (.box [.d (.sl (a0.chains.map cS72)), .i a1]))]) (by simp; exact Sub.table (by simp) (by simp)) ?_
         refine AW.skip ?_
         refine thenQ_normal ?_
         refine AW.block ?_
         refine AW.region ?_
         replace h := bsome h; obtain ⟨v292, hv292, h⟩ := h
         have hv292 := chkI_some hv292
         refine Chain.runK [] 3 fun K hK => ?_; simp [hv292]; refine hK _ _ ?_; clear hK K
         refine Chain.sub (S' := mk 92 [1000] [(0, .ptr 1000 0 0), (1, .i a1), (5, .ref 86 0 l80.length), (7, .ptr 7 0 0), (8, .i v292), (28, .d (.sl (a0.chains.map cS72))), (29, .i (a0.chains.length : Int)), (30, .i v81)] [(7, some (.box [.d (.lit (.string x238.key)), .d (.sl (x238.versions.map cS67))])), (86, some (.nest 72 2 [none, some (67, 3)] (l80.map cS72) [])), (1000, some (.box [.d (.sl (a0.chains.map cS72)), .i a1]))]) Sub.tt ?_
         refine Chain.nil ?_
         cases h
         refine blockQ.normal ?_
         refine PostI.next ?_
         exact Sub.tt
        ·have c291_ : v285 = false := Bool.eq_false_iff.2 c291
         refine AW.condF (b := v285) rfl c291_ ?_
         refine AW.sub (Sub.bool 50 (b := v285) rfl c291_) ?_
         refine AW.sub (S' := mk 92 [1000] [(0, .ptr 1000 0 0), (1, .i a1), (5, .ref 86 0 l80.length), (7, .ptr 7 0 0), (8, .i v251), (28, .d (.sl (a0.chains.map cS72))), (29, .i (a0.chains.length : Int)), (30, .i v81), (50, .b false)] [(7, some (.box [.d (.lit (.string x238.key)), .d (.sl (x238.versions.map cS67))])), (86, some (.nest 72 2 [none, some (67, 3)] (l80.map cS72) [])), (1000, some (.box [.d (.sl (a0.chains.map cS72)), .i a1]))]) (by simp; exact Sub.table (by simp) (by simp)) ?_
         refine AW.exit ?_
         cases h
         refine thenQ_pass (by simp) ?_
         refine PostI.out (by simp) ?_
         rintro rfl
         refine blockQ.hit ?_
         refine PostN.next ?_
         exact Sub.tt
      ·rintro v279 h
       refine AW.seq ?_
       replace h := bsome h; obtain ⟨v296, hj, h⟩ := h
       refine AW.cutR (mk 92 [1000] [(0, .ptr 1000 0 0), (1, .i a1), (5, .ref 86 0 l80.length), (7, .ptr 7 0 0), (8, .i v279), (28, .d (.sl (a0.chains.map cS72))), (29, .i (a0.chains.length : Int)), (30, .i v81), (68, .b v296)] [(7, some (.box [.d (.lit (.string x238.key)), .d (.sl (x238.versions.map cS67))])), (86, some (.nest 72 2 [none, some (67, 3)] (l80.map cS72) [])), (1000, some (.box [.d (.sl (a0.chains.map cS72)), .i a1]))]) ?_ ?_
       ·clear h; have h := hj; clear hj
        replace h := bsome h; obtain ⟨x297, hx297, h⟩ := h
        obtain ⟨k298, hx297k, hx297, hx297a, hx297b⟩ := idx_some hx297
        refine Chain.runK [] 9 fun K hK => ?_; simp [hx297, hx297k, hx297a]; refine hK _ _ ?_; clear hK K
        refine Chain.sub (S' := mk 92 [1000] [(0, .ptr 1000 0 0), (1, .i a1), (5, .ref 86 0 l80.length), (7, .ptr 7 0 0), (8, .i v279), (28, .d (.sl (a0.chains.map cS72))), (29, .i (a0.chains.length : Int)), (30, .i v81), (61, .b (decide (x297.timestamp ≤ a1)))] [(7, some (.box [.d (.lit (.string x238.key)), .d (.sl (x238.versions.map cS67))])), (86, some (.nest 72 2 [none, some (67, 3)] (l80.map cS72) [])), (1000, some (.box [.d (.sl (a0.chains.map cS72)), .i a1]))]) Sub.tt ?_
        replace h := isome h; rcases h with ⟨c299, h⟩ | ⟨c299, h⟩
        ·have c299_ : decide (x297.timestamp ≤ a1) = true := decide_eq_true c299
         refine Chain.sub (Sub.bool 61 (b := decide (x297.timestamp ≤ a1)) rfl c299_) ?_
         refine Chain.sub (S' := mk 92 [1000] [(0, .ptr 1000 0 0), (1, .i a1), (5, .ref 86 0 l80.length), (7, .ptr 7 0 0), (8, .i v279), (28, .d (.sl (a0.chains.map cS72))), (29, .i (a0.chains.length : Int)), (30, .i v81), (61, .b true)] [(7, some (.box [.d (.lit (.string x238.key)), .d (.sl (x238.versions.map cS67))])), (86, some (.nest 72 2 [none, some (67, 3)] (l80.map cS72) [])), (1000, some (.box [.d (.sl (a0.chains.map cS72)), .i a1]))]) (by simp; exact Sub.table (by simp) (by simp)) ?_
         refine Chain.runK [] 7 fun K hK => ?_; simp [hx297, hx297k, hx297a]; refine hK _ _ ?_; clear hK K
         refine Chain.sub (S' := mk 92 [1000] [(0, .ptr 1000 0 0), (1, .i a1), (5, .ref 86 0 l80.length), (7, .ptr 7 0 0), (8, .i v279), (28, .d (.sl (a0.chains.map cS72))), (29, .i (a0.chains.length : Int)), (30, .i v81), (62, .ptr 7 0 1), (63, .d (.sl (x238.versions.map cS67))), (64, .i v279), (65, .d (.pim [.lit (.int .i64 x297.timestamp), .lit (.bool x297.tombstone), .sl (x297.row.map cS53)])), (66, .d (.pim [.lit (.bool x297.tombstone), .sl (x297.row.map cS53)])), (67, .b x297.tombstone), (68, .b x297.tombstone)] [(7, some (.box [.d (.lit (.string x238.key)), .d (.sl (x238.versions.map cS67))])), (86, some (.nest 72 2 [none, some (67, 3)] (l80.map cS72) [])), (1000, some (.box [.d (.sl (a0.chains.map cS72)), .i a1]))]) Sub.tt ?_
         cases h
         exact Chain.nil Sub.tt
        ·have c299_ : decide (x297.timestamp ≤ a1) = false := decide_eq_false c299
         refine Chain.sub (Sub.bool 61 (b := decide (x297.timestamp ≤ a1)) rfl c299_) ?_
         refine Chain.sub (S' := mk 92 [1000] [(0, .ptr 1000 0 0), (1, .i a1), (5, .ref 86 0 l80.length), (7, .ptr 7 0 0), (8, .i v279), (28, .d (.sl (a0.chains.map cS72))), (29, .i (a0.chains.length : Int)), (30, .i v81), (61, .b false)] [(7, some (.box [.d (.lit (.string x238.key)), .d (.sl (x238.versions.map cS67))])), (86, some (.nest 72 2 [none, some (67, 3)] (l80.map cS72) [])), (1000, some (.box [.d (.sl (a0.chains.map cS72)), .i a1]))]) (by simp; exact Sub.table (by simp) (by simp)) ?_
         refine Chain.runK [] 7 fun K hK => ?_; simp; refine hK _ _ ?_; clear hK K
         refine Chain.sub (S' := mk 92 [1000] [(0, .ptr 1000 0 0), (1, .i a1), (5, .ref 86 0 l80.length), (7, .ptr 7 0 0), (8, .i v279), (28, .d (.sl (a0.chains.map cS72))), (29, .i (a0.chains.length : Int)), (30, .i v81), (62, .tup []), (63, .tup []), (64, .tup []), (65, .tup []), (66, .tup []), (67, .tup []), (68, .b false)] [(7, some (.box [.d (.lit (.string x238.key)), .d (.sl (x238.versions.map cS67))])), (86, some (.nest 72 2 [none, some (67, 3)] (l80.map cS72) [])), (1000, some (.box [.d (.sl (a0.chains.map cS72)), .i a1]))]) Sub.tt ?_
         cases h
         exact Chain.nil Sub.tt
       ·clear hj
        refine AW.lastN (fun (v302 : Int) => mk 92 [1000] [(0, .ptr 1000 0 0), (1, .i a1), (5, .ref 86 0 l80.length), (7, .ptr 7 0 0), (8, .i v302), (28, .d (.sl (a0.chains.map cS72))), (29, .i (a0.chains.length : Int)), (30, .i v81)] [(7, some (.box [.d (.lit (.string x238.key)), .d (.sl (x238.versions.map cS67))])), (86, some (.nest 72 2 [none, some (67, 3)] (l80.map cS72) [])), (1000, some (.box [.d (.sl (a0.chains.map cS72)), .i a1]))]) h ?_ ?_ <;> clear h
        ·intro o h
         replace h := isome h; rcases h with ⟨c303, h⟩ | ⟨c303, h⟩
         ·have c303_ : v296 = true := c303
          refine AW.condT (b := v296) rfl c303_ ?_
          refine AW.sub (Sub.bool 68 (b := v296) rfl c303_) ?_
          refine AW.sub (S' := mk 92 [1000] [(0, .ptr 1000 0 0), (1, .i a1), (5, .ref 86 0 l80.length), (7, .ptr 7 0 0), (8, .i v279), (28, .d (.sl (a0.chains.map cS72))), (29, .i (a0.chains.length : Int)), (30, .i v81), (68, .b true)] [(7, some (.box [.d (.lit (.string x238.key)), .d (.sl (x238.versions.map cS67))])), (86, some (.nest 72 2 [none, some (67, 3)] (l80.map cS72) [])), (1000, some (.box [.d (.sl (a0.chains.map cS72)), .i a1]))]) (by simp; exact Sub.table (by simp) (by simp)) ?_
          refine AW.region ?_
          replace h := bsome h; obtain ⟨v304, hv304, h⟩ := h
          have hv304 := chkI_some hv304
          refine Chain.runK [] 3 fun K hK => ?_; simp [hv304]; refine hK _ _ ?_; clear hK K
          refine Chain.sub (S' := mk 92 [1000] [(0, .ptr 1000 0 0), (1, .i a1), (5, .ref 86 0 l80.length), (7, .ptr 7 0 0), (8, .i v304), (28, .d (.sl (a0.chains.map cS72))), (29, .i (a0.chains.length : Int)), (30, .i v81)] [(7, some (.box [.d (.lit (.string x238.key)), .d (.sl (x238.versions.map cS67))])), (86, some (.nest 72 2 [none, some (67, 3)] (l80.map cS72) [])), (1000, some (.box [.d (.sl (a0.chains.map cS72)), .i a1]))]) Sub.tt ?_
          refine Chain.nil ?_
          cases h
          refine PostN.next ?_
          exact Sub.tt
         ·have c303_ : v296 = false := Bool.eq_false_iff.2 c303
          refine AW.condF (b := v296) rfl c303_ ?_
          refine AW.sub (Sub.bool 68 (b := v296) rfl c303_) ?_
          refine AW.sub (S' := mk 92 [1000] [(0, .ptr 1000 0 0), (1, .i a1), (5, .ref 86 0 l80.length), (7, .ptr 7 0 0), (8, .i v279), (28, .d (.sl (a0.chains.map cS72))), (29, .i (a0.chains.length : Int)), (30, .i v81), (68, .b false)] [(7, some (.box [.d (.lit (.string x238.key)), .d (.sl (x238.versions.map cS67))])), (86, some (.nest 72 2 [none, some (67, 3)] (l80.map cS72) [])), (1000, some (.box [.d (.sl (a0.chains.map cS72)), .i a1]))]) (by simp; exact Sub.table (by simp) (by simp)) ?_
          refine AW.skip ?_
          cases h
          refine PostN.next ?_
          exact Sub.tt
        ·rintro v302 h
         refine thenQ_normal ?_
         refine AW.seqR ?_
         refine Chain.runK [] 5 fun K hK => ?_; simp; refine hK _ _ ?_; clear hK K
         refine Chain.sub (S' := mk 92 [1000] [(0, .ptr 1000 0 0), (1, .i a1), (5, .ref 86 0 l80.length), (7, .ptr 7 0 0), (8, .i v302), (28, .d (.sl (a0.chains.map cS72))), (29, .i (a0.chains.length : Int)), (30, .i v81), (75, .b (decide (v302 < (x238.versions.length : Int))))] [(7, some (.box [.d (.lit (.string x238.key)), .d (.sl (x238.versions.map cS67))])), (86, some (.nest 72 2 [none, some (67, 3)] (l80.map cS72) [])), (1000, some (.box [.d (.sl (a0.chains.map cS72)), .i a1]))]) Sub.tt ?_
         refine Chain.nil ?_
         replace h := isome h; rcases h with ⟨c305, h⟩ | ⟨c305, h⟩
         ·have c305_ : decide (v302 < (x238.versions.length : Int)) = true := decide_eq_true c305
          refine AW.condT (b := decide (v302 < (x238.versions.length : Int))) rfl c305_ ?_
          refine AW.sub (Sub.bool 75 (b := decide (v302 < (x238.versions.length : Int))) rfl c305_) ?_
          refine AW.sub (S' := mk 92 [1000] [(0, .ptr 1000 0 0), (1, .i a1), (5, .ref 86 0 l80.length), (7, .ptr 7 0 0), (8, .i v302), (28, .d (.sl (a0.chains.map cS72))), (29, .i (a0.chains.length : Int)), (30, .i v81), (75, .b true)] [(7, some (.box [.d (.lit (.string x238.key)), .d (.sl (x238.versions.map cS67))])), (86, some (.nest 72 2 [none, some (67, 3)] (l80.map cS72) [])), (1000, some (.box [.d (.sl (a0.chains.map cS72)), .i a1]))]) (by simp; exact Sub.table (by simp) (by simp)) ?_
          replace h := bsome h; obtain ⟨n306, gn306, h⟩ := h
          obtain ⟨hn306a, hn306⟩ := natI_some gn306
          clear gn306
          subst hn306a
          replace h := lsome h; obtain ⟨l307, gl307, h⟩ := h
          have hl307 : ((x238.versions.map cS67).drop n306) = l307.map cS67 := by rw [← gl307]; simp
          clear gl307
          replace h := bsome h; obtain ⟨r308, hr308, h⟩ := h
          replace h := lsome h; obtain ⟨l309, gl309, h⟩ := h
          have hl309 : [[.lit (.string x238.key), .sl (r308.map cS67)]] = l309.map cS72 := by rw [← gl309]; rfl
          have hl309n : l309.length = 1 := by rw [← gl309]; rfl
          clear gl309
          replace h := bsome h; obtain ⟨l310, hl310, h⟩ := h
          obtain ⟨hl310a, hl310⟩ := appL_some hl310
          subst hl310
          refine AW.lastAnyS [[], [], [1], [], [3], [], [3, 4, 5], [3, 4, 5, 6], [1, 2, 3, 4, 5, 6, 7], [1, 2, 3, 4, 5, 6, 7, 8], [0, 1, 2, 3, 4, 5, 6, 7, 8, 9], [0, 1, 2, 3, 4, 5, 6, 7, 8, 9, 10]] (fun (b : Nat → Bool) => mk 92 [1000] [(0, .ptr 1000 0 0), (1, .i a1), (5, (if b 11 then .ref 86 0 ((l80 ++ l309).length) else (if b 10 then .junk else .ref 86 0 l80.length))), (7, .ptr 7 0 0), (8, .i (n306 : Int)), (28, .d (.sl (a0.chains.map cS72))), (29, .i (a0.chains.length : Int)), (30, .i v81), (76, (if b 10 then .junk else (if b 0 then .ref 86 0 l80.length else .junk))), (77, (if b 1 then .ptr 7 0 0 else .junk)), (78, (if b 2 then .d (.lit (.string x238.key)) else .junk)), (79, (if b 3 then .ptr 7 0 1 else .junk)), (80, (if b 4 then .d (.sl (x238.versions.map cS67)) else .junk)), (81, (if b 5 then .i (n306 : Int) else .junk)), (82, (if b 6 then .d (.sl (l307.map cS67)) else .junk)), (83, (if b 9 then .junk else (if b 7 then .ref 83 0 r308.length else .junk))), (84, (if b 9 then .junk else (if b 8 then .agg [.d (.lit (.string x238.key)), .ref 83 0 r308.length] else .junk))), (85, (if b 10 then .junk else (if b 9 then .ref 85 0 l309.length else .junk))), (86, (if b 10 then .ref 86 0 ((l80 ++ l309).length) else .junk))] [(7, some (.box [.d (.lit (.string x238.key)), .d (.sl (x238.versions.map cS67))])), (83, (if b 9 then none else (if b 7 then R67 r308 else none))), (85, (if b 10 then none else (if b 9 then some (.nest 72 2 [none, some (67, 3)] (l309.map cS72) []) else none))), (86, (if b 10 then some (.nest 72 2 [none, some (67, 3)] ((l80 ++ l309).map cS72) []) else some (.nest 72 2 [none, some (67, 3)] (l80.map cS72) []))), (1000, some (.box [.d (.sl (a0.chains.map cS72)), .i a1]))]) (mk 92 [1000] [(0, .ptr 1000 0 0), (1, .i a1), (5, .ref 86 0 ((l80 ++ l309).length)), (28, .d (.sl (a0.chains.map cS72))), (29, .i (a0.chains.length : Int)), (30, .i v81)] [(86, some (.nest 72 2 [none, some (67, 3)] ((l80 ++ l309).map cS72) [])), (1000, some (.box [.d (.sl (a0.chains.map cS72)), .i a1]))]) (by kernel_rfl) (by kernel_rfl) Sub.tt (Steps.cons ?_ (Steps.cons ?_ (Steps.cons ?_ (Steps.cons ?_ (Steps.cons ?_ (Steps.cons ?_ (Steps.cons ?_ (Steps.cons ?_ (Steps.cons ?_ (Steps.cons ?_ (Steps.cons ?_ (Steps.cons ?_ (Steps.nil))))))))))))) ?_ ?_
          ·intro b h0 ha hd
           have f10 : b 10 = false := hd 10 (by decide)
           have f11 : b 11 = false := hd 11 (by decide)
           refine Chain.runK [85] 1 fun K hK => ?_; simp [h0, f10, f11]; refine hK _ _ ?_; clear hK K
           exact Chain.nil (Sub.table (by simp [f10, f11]) (by simp [f10]))
          ·intro b h0 ha hd
           have f2 : b 2 = false := hd 2 (by decide)
           have f8 : b 8 = false := hd 8 (by decide)
           have f9 : b 9 = false := hd 9 (by decide)
           have f10 : b 10 = false := hd 10 (by decide)
           have f11 : b 11 = false := hd 11 (by decide)
           refine Chain.runK [85] 1 fun K hK => ?_; simp [h0, f2, f8, f9, f10, f11]; refine hK _ _ ?_; clear hK K
           exact Chain.nil (Sub.table (by simp [f2, f8, f9, f10, f11]) (by simp [f9, f10]))
          ·intro b h0 ha hd
           have t1 : b 1 = true := ha 1 (by decide)
           have f8 : b 8 = false := hd 8 (by decide)
           have f9 : b 9 = false := hd 9 (by decide)
           have f10 : b 10 = false := hd 10 (by decide)
           have f11 : b 11 = false := hd 11 (by decide)
           refine Chain.runK [85] 1 fun K hK => ?_; simp [h0, t1, f8, f9, f10, f11]; refine hK _ _ ?_; clear hK K
           exact Chain.nil (Sub.table (by simp [t1, f8, f9, f10, f11]) (by simp [f9, f10]))
          ·intro b h0 ha hd
           have f4 : b 4 = false := hd 4 (by decide)
           have f6 : b 6 = false := hd 6 (by decide)
           have f7 : b 7 = false := hd 7 (by decide)
           have f8 : b 8 = false := hd 8 (by decide)
           have f9 : b 9 = false := hd 9 (by decide)
           have f10 : b 10 = false := hd 10 (by decide)
           have f11 : b 11 = false := hd 11 (by decide)
           refine Chain.runK [85] 1 fun K hK => ?_; simp [h0, f4, f6, f7, f8, f9, f10, f11]; refine hK _ _ ?_; clear hK K
           exact Chain.nil (Sub.table (by simp [f4, f6, f7, f8, f9, f10, f11]) (by simp [f7, f9, f10]))
          ·intro b h0 ha hd
           have t3 : b 3 = true := ha 3 (by decide)
           have f6 : b 6 = false := hd 6 (by decide)
           have f7 : b 7 = false := hd 7 (by decide)
           have f8 : b 8 = false := hd 8 (by decide)
           have f9 : b 9 = false := hd 9 (by decide)
           have f10 : b 10 = false := hd 10 (by decide)
           have f11 : b 11 = false := hd 11 (by decide)
           refine Chain.runK [85] 1 fun K hK => ?_; simp [h0, t3, f6, f7, f8, f9, f10, f11]; refine hK _ _ ?_; clear hK K
           exact Chain.nil (Sub.table (by simp [t3, f6, f7, f8, f9, f10, f11]) (by simp [f7, f9, f10]))
          ·intro b h0 ha hd
           have f6 : b 6 = false := hd 6 (by decide)
           have f7 : b 7 = false := hd 7 (by decide)
           have f8 : b 8 = false := hd 8 (by decide)
           have f9 : b 9 = false := hd 9 (by decide)
           have f10 : b 10 = false := hd 10 (by decide)
           have f11 : b 11 = false := hd 11 (by decide)
           refine Chain.runK [85] 1 fun K hK => ?_; simp [h0, f6, f7, f8, f9, f10, f11]; refine hK _ _ ?_; clear hK K
           exact Chain.nil (Sub.table (by simp [f6, f7, f8, f9, f10, f11]) (by simp [f7, f9, f10]))
          ·intro b h0 ha hd
           have t3 : b 3 = true := ha 3 (by decide)
           have t4 : b 4 = true := ha 4 (by decide)
           have t5 : b 5 = true := ha 5 (by decide)
           have f7 : b 7 = false := hd 7 (by decide)
           have f8 : b 8 = false := hd 8 (by decide)
           have f9 : b 9 = false := hd 9 (by decide)
           have f10 : b 10 = false := hd 10 (by decide)
           have f11 : b 11 = false := hd 11 (by decide)
           refine Chain.runK [85] 1 fun K hK => ?_; simp [h0, t3, t4, t5, f7, f8, f9, f10, f11, hn306, hl307]; refine hK _ _ ?_; clear hK K
           exact Chain.nil (Sub.table (by simp [t3, t4, t5, f7, f8, f9, f10, f11]) (by simp [f7, f9, f10]))
          ·intro b h0 ha hd
           have t3 : b 3 = true := ha 3 (by decide)
           have t4 : b 4 = true := ha 4 (by decide)
           have t5 : b 5 = true := ha 5 (by decide)
           have t6 : b 6 = true := ha 6 (by decide)
           have f8 : b 8 = false := hd 8 (by decide)
           have f9 : b 9 = false := hd 9 (by decide)
           have f10 : b 10 = false := hd 10 (by decide)
           have f11 : b 11 = false := hd 11 (by decide)
           simp only [h0, t3, t4, t5, t6, f8, f9, f10, f11, if_true, if_false, Bool.false_eq_true]
           refine Chain.callO (d := 83) (p27 N l307 r308 hr308) (by simp) rfl rfl (by simp <;> rfl) (by simp <;> rfl) ent27 (by simp) ⟨by simp, by simp⟩ ?_
           exact Chain.nil (by simp [t3, t4, t5, t6, f8, f9, f10, f11]; exact Sub.table (by simp) (by simp))
          ·intro b h0 ha hd
           have t1 : b 1 = true := ha 1 (by decide)
           have t2 : b 2 = true := ha 2 (by decide)
           have t3 : b 3 = true := ha 3 (by decide)
           have t4 : b 4 = true := ha 4 (by decide)
           have t5 : b 5 = true := ha 5 (by decide)
           have t6 : b 6 = true := ha 6 (by decide)
           have t7 : b 7 = true := ha 7 (by decide)
           have f9 : b 9 = false := hd 9 (by decide)
           have f10 : b 10 = false := hd 10 (by decide)
           have f11 : b 11 = false := hd 11 (by decide)
           refine Chain.runK [85] 1 fun K hK => ?_; simp [h0, t1, t2, t3, t4, t5, t6, t7, f9, f10, f11]; refine hK _ _ ?_; clear hK K
           exact Chain.nil (Sub.table (by simp [t1, t2, t3, t4, t5, t6, t7, f9, f10, f11]) (by simp [t7, f9, f10]))
          ·intro b h0 ha hd
           have t1 : b 1 = true := ha 1 (by decide)
           have t2 : b 2 = true := ha 2 (by decide)
           have t3 : b 3 = true := ha 3 (by decide)
           have t4 : b 4 = true := ha 4 (by decide)
           have t5 : b 5 = true := ha 5 (by decide)
           have t6 : b 6 = true := ha 6 (by decide)
           have t7 : b 7 = true := ha 7 (by decide)
           have t8 : b 8 = true := ha 8 (by decide)
           have f10 : b 10 = false := hd 10 (by decide)
           have f11 : b 11 = false := hd 11 (by decide)
           simp only [h0, t1, t2, t3, t4, t5, t6, t7, t8, f10, f11, if_true, if_false, Bool.false_eq_true]
           refine Chain.buildN (d := 85) (cs := [.d (.lit (.string x238.key)), .ref 83 0 r308.length]) (te := ⟨_, 2, 40, _⟩) [none, some (67, 3)] (by simp) rfl rfl ty61 rfl ty72 (by simp) rfl rfl rfl rfl (by decide) (by decide) rfl rfl rfl ?_
           refine Chain.sub (Sub.close 85 0 (e := [.lit (.string x238.key), .sl (r308.map cS67)]) (cs := [.d (.lit (.string x238.key)), .ref 83 0 r308.length]) (ks := [83]) rfl rfl (by simp) (by decide) rfl) ?_
           cases q0 : b 0 <;> exact Chain.nil (by simp [t1, t2, t3, t4, t5, t6, f10, f11, hl309, q0]; exact Sub.table (by simp [hl309n]) (by simp))
          ·intro b h0 ha hd
           have t0 : b 0 = true := ha 0 (by decide)
           have t1 : b 1 = true := ha 1 (by decide)
           have t2 : b 2 = true := ha 2 (by decide)
           have t3 : b 3 = true := ha 3 (by decide)
           have t4 : b 4 = true := ha 4 (by decide)
           have t5 : b 5 = true := ha 5 (by decide)
           have t6 : b 6 = true := ha 6 (by decide)
           have t7 : b 7 = true := ha 7 (by decide)
           have t8 : b 8 = true := ha 8 (by decide)
           have t9 : b 9 = true := ha 9 (by decide)
           have f11 : b 11 = false := hd 11 (by decide)
           simp only [h0, t0, t1, t2, t3, t4, t5, t6, t7, t8, t9, f11, if_true, if_false, Bool.false_eq_true]
           refine Chain.appN (id := 86) (k := 85) (sh := [none, some (67, 3)]) (es := l80.map cS72) (ys := l309.map cS72) (te := ⟨_, 2, 40, _⟩) (by simp) rfl rfl rfl rfl ty61 rfl ty72 (by simp) (by simp) rfl (by simp) (by simp) rfl (by decide) (by simp [hl309n]) (by decide) rfl (by rw [List.length_map, List.length_map]; exact hl310a) ?_
           exact Chain.nil (by simp [t1, t2, t3, t4, t5, t6, t9, f11]; exact Sub.table (by simp) (by simp))
          ·intro b h0 ha hd
           have t0 : b 0 = true := ha 0 (by decide)
           have t1 : b 1 = true := ha 1 (by decide)
           have t2 : b 2 = true := ha 2 (by decide)
           have t3 : b 3 = true := ha 3 (by decide)
           have t4 : b 4 = true := ha 4 (by decide)
           have t5 : b 5 = true := ha 5 (by decide)
           have t6 : b 6 = true := ha 6 (by decide)
           have t7 : b 7 = true := ha 7 (by decide)
           have t8 : b 8 = true := ha 8 (by decide)
           have t9 : b 9 = true := ha 9 (by decide)
           have t10 : b 10 = true := ha 10 (by decide)
           refine Chain.runK [85] 1 fun K hK => ?_; simp [h0, t1, t2, t3, t4, t5, t6, t9, t10]; refine hK _ _ ?_; clear hK K
           exact Chain.nil (Sub.table (by simp [t1, t2, t3, t4, t5, t6, t9, t10]) (by simp [t9, t10]))
          ·intro b hb
           have t0 := hb 0 (by decide)
           have t1 := hb 1 (by decide)
           have t2 := hb 2 (by decide)
           have t3 := hb 3 (by decide)
           have t4 := hb 4 (by decide)
           have t5 := hb 5 (by decide)
           have t6 := hb 6 (by decide)
           have t7 := hb 7 (by decide)
           have t8 := hb 8 (by decide)
           have t9 := hb 9 (by decide)
           have t10 := hb 10 (by decide)
           have t11 := hb 11 (by decide)
           exact Sub.table (by simp [t1, t2, t3, t4, t5, t6, t9, t10, t11]) (by simp [t9, t10])
          ·skip
           refine blockQ.normal ?_
           refine thenQ_normal ?_
           refine AW.region ?_
           replace h := bsome h; obtain ⟨v311, hv311, h⟩ := h
           have hv311 := chkI_some hv311
           refine Chain.runK [] 2 fun K hK => ?_; simp [hv311]; refine hK _ _ ?_; clear hK K
           refine Chain.sub (S' := mk 92 [1000] [(0, .ptr 1000 0 0), (1, .i a1), (5, .ref 86 0 ((l80 ++ l309).length)), (28, .d (.sl (a0.chains.map cS72))), (29, .i (a0.chains.length : Int)), (30, .i v311)] [(86, some (.nest 72 2 [none, some (67, 3)] ((l80 ++ l309).map cS72) [])), (1000, some (.box [.d (.sl (a0.chains.map cS72)), .i a1]))]) Sub.tt ?_
           refine Chain.nil ?_
           cases h
           refine PostI.next ?_
           exact Sub.tt
         ·have c305_ : decide (v302 < (x238.versions.length : Int)) = false := decide_eq_false c305
          refine AW.condF (b := decide (v302 < (x238.versions.length : Int))) rfl c305_ ?_
          refine AW.sub (Sub.bool 75 (b := decide (v302 < (x238.versions.length : Int))) rfl c305_) ?_
          refine AW.sub (S' := mk 92 [1000] [(0, .ptr 1000 0 0), (1, .i a1), (5, .ref 86 0 l80.length), (7, .ptr 7 0 0), (8, .i v302), (28, .d (.sl (a0.chains.map cS72))), (29, .i (a0.chains.length : Int)), (30, .i v81), (75, .b false)] [(7, some (.box [.d (.lit (.string x238.key)), .d (.sl (x238.versions.map cS67))])), (86, some (.nest 72 2 [none, some (67, 3)] (l80.map cS72) [])), (1000, some (.box [.d (.sl (a0.chains.map cS72)), .i a1]))]) (by simp; exact Sub.table (by simp) (by simp)) ?_
          refine AW.skip ?_
          refine blockQ.normal ?_
          refine thenQ_normal ?_
          refine AW.region ?_
          replace h := bsome h; obtain ⟨v312, hv312, h⟩ := h
          have hv312 := chkI_some hv312
          refine Chain.runK [] 2 fun K hK => ?_; simp [hv312]; refine hK _ _ ?_; clear hK K
          refine Chain.sub (S' := mk 92 [1000] [(0, .ptr 1000 0 0), (1, .i a1), (5, .ref 86 0 l80.length), (28, .d (.sl (a0.chains.map cS72))), (29, .i (a0.chains.length : Int)), (30, .i v312)] [(86, some (.nest 72 2 [none, some (67, 3)] (l80.map cS72) [])), (1000, some (.box [.d (.sl (a0.chains.map cS72)), .i a1]))]) Sub.tt ?_
          refine Chain.nil ?_
          cases h
          refine PostI.next ?_
          exact Sub.tt
     ·have c237_ : decide (v81 < (a0.chains.length : Int)) = false := decide_eq_false c237
      refine AW.condF (b := decide (v81 < (a0.chains.length : Int))) rfl c237_ ?_
      refine AW.sub (Sub.bool 31 (b := decide (v81 < (a0.chains.length : Int))) rfl c237_) ?_
      refine AW.sub (S' := mk 92 [1000] [(0, .ptr 1000 0 0), (1, .i a1), (5, .ref 86 0 l80.length), (28, .d (.sl (a0.chains.map cS72))), (29, .i (a0.chains.length : Int)), (30, .i v81), (31, .b false)] [(86, some (.nest 72 2 [none, some (67, 3)] (l80.map cS72) [])), (1000, some (.box [.d (.sl (a0.chains.map cS72)), .i a1]))]) (by simp; exact Sub.table (by simp) (by simp)) ?_
      refine AW.exit ?_
      cases h
      refine thenQ_pass (by simp) ?_
      refine PostI.out (by simp) ?_
      rintro rfl
      refine blockQ.hit ?_
      refine PostN.next ?_
      exact Sub.tt
    ·rintro l236 h
     refine thenQ_normal ?_
     refine AW.seqR ?_
     refine Chain.runK [] 5 fun K hK => ?_; simp; refine hK _ _ ?_; clear hK K
     refine Chain.sub (S' := mk 92 [1000] [] [(86, some (.nest 72 2 [none, some (67, 3)] (l236.map cS72) [])), (1000, some (.box [.ref 86 0 l236.length, .i a1]))]) Sub.tt ?_
     refine Chain.sub (S' := mk 92 [1000] [] [(1000, some (.box [.ref 25000 0 l236.length, .i a1])), (25000, some (.nest 72 2 [none, some (67, 3)] (l236.map cS72) []))]) (Sub.names [(86, 25000), (1000, 1000)] (by simp) (by simp) (by simp [back]) (by simp [V.rnm]) (by simp [back, Blk.rnm, V.rnm, rnmL, lk2])) ?_
     refine Chain.nil ?_
     refine AW.seqR ?_
     refine Chain.runK [] 1 fun K hK => ?_; simp; refine hK _ _ ?_; clear hK K
     refine Chain.sub (S' := mk 92 [1000] [(4, .i 0)] [(1000, some (.box [.ref 25000 0 l236.length, .i a1])), (25000, some (.nest 72 2 [none, some (67, 3)] (l236.map cS72) []))]) Sub.tt ?_
     refine Chain.nil ?_
     refine AW.ret ?_
     cases h
     exact FinF.ret (by simp) (by simp)

end Go.Proofs.Ytifcmomjjkbboac
