/- Functions of the program as functional programs; the code computes them. -/
import Derived.Test.YtifcmomjjkbboacMv4
namespace Go.Proofs.Ytifcmomjjkbboac
open Go.Ab Go.Rp
attribute [-simp] List.all_eq_true Array.all_toList Array.all_eq_true

/-- (*stemma/stemref5.Store).Vacuum -/
def d14 (N : Nat) (a0 : S36) (a1 : Int) : Option S36 :=
 if a1 ≤ a0.Horizon then (
  some a0
 ) else
 Option.bind (α := List S43) (
  iterN (σ := ((List S43) × Int)) (ρ := List S43) (fun ((l59, v60) : ((List S43) × Int)) =>
   if v60 < (a0.Versions.length : Int) then (
    (idx a0.Versions v60).bind fun x181 =>
    Option.bind (α := Bool) (
     if x181.Timestamp ≤ a1 then (
      some x181.Tombstone
     ) else
     some false
    ) fun (v184 : Bool) =>
    Option.bind (α := Bool) (
     iterN (σ := (Bool × Int)) (ρ := Bool) (fun ((v196, v197) : (Bool × Int)) =>
      if v197 < (a0.Versions.length : Int) then (
       (idx a0.Versions v197).bind fun x224 =>
       Option.bind (α := Bool) (
        if v196 = true then (
         some true
        ) else
        if decide (x224.Key = x181.Key) = true then (
         if x224.Timestamp > x181.Timestamp then (
          some (decide (x224.Timestamp ≤ a1))
         ) else
         some false
        ) else
        some false
       ) fun (v229 : Bool) =>
       (chkI (v197 + 1)).bind fun v233 =>
       some (.inl (v229, v233))
      ) else
      some (.inr v196)
     ) N (v184, 0)
    ) fun (v222 : Bool) =>
    if (!v222) = true then (
     (appL 56 l59 [x181]).bind fun _l235 =>
     (chkI (v60 + 1)).bind fun v236 =>
     some (.inl ((l59 ++ [x181]), v236))
    ) else
    (chkI (v60 + 1)).bind fun v237 =>
    some (.inl (l59, v237))
   ) else
   some (.inr l59)
  ) N (([] : List S43), 0)
 ) fun (l179 : List S43) =>
 some (S36.mk l179 a1)
set_option maxRecDepth 100000 in
set_option maxHeartbeats 4000000 in
theorem p14 (N : Nat) (a0 : S36) (a1 : Int) (r : S36) (h : d14 N a0 a1 = some r) : FunM Try.prog 14 [.ptr 1000 0 0, .i a1] [(1000, some (.box [.ref 25000 0 a0.Versions.length, .i a0.Horizon])), (25000, R43 a0.Versions)] [1000] (.tup []) ([(1000, (.box [.ref 25000 0 r.Versions.length, .i r.Horizon])), (25000, (.arr 43 4 (r.Versions.map cS43)))]) := by
 unfold d14 at h
 refine FunM.enter 79 [(0, .ptr 1000 0 0), (1, .i a1)] Try.func14 rfl (of_decide_eq_true rfl) rfl rfl ?_
 refine AW.seq ?_
 refine AW.seqR ?_
 refine Chain.runK [] 6 fun K hK => ?_; simp; refine hK _ _ ?_; clear hK K
 refine Chain.sub (S' := mk 79 [1000] [(0, .ptr 1000 0 0), (1, .i a1), (15, .b (decide (a1 ≤ a0.Horizon)))] [(1000, some (.box [.ref 25000 0 a0.Versions.length, .i a0.Horizon])), (25000, R43 a0.Versions)]) Sub.tt ?_
 refine Chain.nil ?_
 replace h := isome h; rcases h with ⟨c1, h⟩ | ⟨c1, h⟩
 ·have c1_ : decide (a1 ≤ a0.Horizon) = true := decide_eq_true c1
  refine AW.condT (b := decide (a1 ≤ a0.Horizon)) rfl c1_ ?_
  refine AW.sub (Sub.bool 15 (b := decide (a1 ≤ a0.Horizon)) rfl c1_) ?_
  refine AW.sub (S' := mk 79 [1000] [(0, .ptr 1000 0 0), (1, .i a1), (15, .b true)] [(1000, some (.box [.ref 25000 0 a0.Versions.length, .i a0.Horizon])), (25000, R43 a0.Versions)]) (by simp; exact Sub.table (by simp) (by simp)) ?_
  refine AW.ret ?_
  cases h
  refine thenQ_pass (by simp) ?_
  exact FinF.ret (by simp) (by simp)
 ·have c1_ : decide (a1 ≤ a0.Horizon) = false := decide_eq_false c1
  refine AW.condF (b := decide (a1 ≤ a0.Horizon)) rfl c1_ ?_
  refine AW.sub (Sub.bool 15 (b := decide (a1 ≤ a0.Horizon)) rfl c1_) ?_
  refine AW.sub (S' := mk 79 [1000] [(0, .ptr 1000 0 0), (1, .i a1), (15, .b false)] [(1000, some (.box [.ref 25000 0 a0.Versions.length, .i a0.Horizon])), (25000, R43 a0.Versions)]) (by simp; exact Sub.table (by simp) (by simp)) ?_
  refine AW.skip ?_
  refine thenQ_normal ?_
  refine AW.seqR ?_
  refine Chain.runK [] 5 fun K hK => ?_; simp; refine hK _ _ ?_; clear hK K
  refine Chain.sub (S' := mk 79 [1000] [(0, .ptr 1000 0 0), (1, .i a1)] [(1000, some (.box [.ref 25000 0 a0.Versions.length, .i a1])), (25000, R43 a0.Versions)]) Sub.tt ?_
  refine Chain.nil ?_
  refine AW.seqR ?_
  refine Chain.runK [] 1 fun K hK => ?_; simp; refine hK _ _ ?_; clear hK K
  refine Chain.sub (S' := mk 79 [1000] [(0, .ptr 1000 0 0), (1, .i a1), (4, .d (.lit (.slice none 0 0)))] [(1000, some (.box [.ref 25000 0 a0.Versions.length, .i a1])), (25000, R43 a0.Versions)]) Sub.tt ?_
  refine Chain.nil ?_
  refine AW.seq ?_
  refine AW.seqR ?_
  refine Chain.runK [] 6 fun K hK => ?_; simp; refine hK _ _ ?_; clear hK K
  refine Chain.sub (S' := mk 79 [1000] [(0, .ptr 1000 0 0), (1, .i a1), (4, .d (.lit (.slice none 0 0))), (23, .ref 25000 0 a0.Versions.length), (24, .i (a0.Versions.length : Int)), (25, .i 0)] [(1000, some (.box [.ref 25000 0 a0.Versions.length, .i a1])), (25000, R43 a0.Versions)]) Sub.tt ?_
  refine Chain.nil ?_
  refine AW.lastN (fun (l179 : List S43) => mk 79 [1000] [(0, .ptr 1000 0 0), (4, .ref 73 0 l179.length)] [(73, R43 l179), (1000, some (.box [.ref 25000 0 a0.Versions.length, .i a1])), (25000, R43 a0.Versions)]) h ?_ ?_ <;> clear h
  ·intro o h
   refine AW.block ?_
   refine AW.iter (fun ((l59, v60) : ((List S43) × Int)) => mk 79 [1000] [(0, .ptr 1000 0 0), (1, .i a1), (4, .ref 73 0 l59.length), (23, .ref 25000 0 a0.Versions.length), (24, .i (a0.Versions.length : Int)), (25, .i v60)] [(73, R43 l59), (1000, some (.box [.ref 25000 0 a0.Versions.length, .i a1])), (25000, R43 a0.Versions)]) h (Sub.trans (Sub.nilOwn (t := 4) (id := 73) (T := 43) (n := 4) rfl rfl (by decide)) (by simp; exact Sub.table (by simp) (by simp))) ?_
   clear h
   rintro ⟨l59, v60⟩ x h
   dsimp only at h ⊢
   refine AW.seqR ?_
   refine Chain.runK [] 1 fun K hK => ?_; simp; refine hK _ _ ?_; clear hK K
   refine Chain.sub (S' := mk 79 [1000] [(0, .ptr 1000 0 0), (1, .i a1), (4, .ref 73 0 l59.length), (23, .ref 25000 0 a0.Versions.length), (24, .i (a0.Versions.length : Int)), (25, .i v60), (26, .b (decide (v60 < (a0.Versions.length : Int))))] [(73, R43 l59), (1000, some (.box [.ref 25000 0 a0.Versions.length, .i a1])), (25000, R43 a0.Versions)]) Sub.tt ?_
   refine Chain.nil ?_
   refine AW.seq ?_
   replace h := isome h; rcases h with ⟨c180, h⟩ | ⟨c180, h⟩
   ·have c180_ : decide (v60 < (a0.Versions.length : Int)) = true := decide_eq_true c180
    refine AW.condT (b := decide (v60 < (a0.Versions.length : Int))) rfl c180_ ?_
    refine AW.sub (Sub.bool 26 (b := decide (v60 < (a0.Versions.length : Int))) rfl c180_) ?_
    refine AW.sub (S' := mk 79 [1000] [(0, .ptr 1000 0 0), (1, .i a1), (4, .ref 73 0 l59.length), (23, .ref 25000 0 a0.Versions.length), (24, .i (a0.Versions.length : Int)), (25, .i v60), (26, .b true)] [(73, R43 l59), (1000, some (.box [.ref 25000 0 a0.Versions.length, .i a1])), (25000, R43 a0.Versions)]) (by simp; exact Sub.table (by simp) (by simp)) ?_
    refine AW.skip ?_
    refine thenQ_normal ?_
    refine AW.seq ?_
    refine AW.block ?_
    refine AW.seqR ?_
    replace h := bsome h; obtain ⟨x181, hx181, h⟩ := h
    obtain ⟨k182, hx181k, hx181, hx181a, hx181b⟩ := idx_some hx181
    refine Chain.runK [] 4 fun K hK => ?_; simp [hx181, hx181k, hx181a, hx181b]; refine hK _ _ ?_; clear hK K
    refine Chain.sub (S' := mk 79 [1000] [(0, .ptr 1000 0 0), (1, .i a1), (4, .ref 73 0 l59.length), (6, .ptr 6 0 0), (23, .ref 25000 0 a0.Versions.length), (24, .i (a0.Versions.length : Int)), (25, .i v60)] [(6, some (.box [.d (.lit (.string x181.Key)), .i x181.Timestamp, .b x181.Tombstone, .d (.sl (x181.Row.map cS53))])), (73, R43 l59), (1000, some (.box [.ref 25000 0 a0.Versions.length, .i a1])), (25000, R43 a0.Versions)]) Sub.tt ?_
    refine Chain.nil ?_
    replace h := bsome h; obtain ⟨v184, hj, h⟩ := h
    refine AW.cutR (mk 79 [1000] [(0, .ptr 1000 0 0), (1, .i a1), (4, .ref 73 0 l59.length), (6, .ptr 6 0 0), (7, .b v184), (23, .ref 25000 0 a0.Versions.length), (24, .i (a0.Versions.length : Int)), (25, .i v60)] [(6, some (.box [.d (.lit (.string x181.Key)), .i x181.Timestamp, .b x181.Tombstone, .d (.sl (x181.Row.map cS53))])), (73, R43 l59), (1000, some (.box [.ref 25000 0 a0.Versions.length, .i a1])), (25000, R43 a0.Versions)]) ?_ ?_
    ·clear h; have h := hj; clear hj
     refine Chain.runK [] 5 fun K hK => ?_; simp; refine hK _ _ ?_; clear hK K
     refine Chain.sub (S' := mk 79 [1000] [(0, .ptr 1000 0 0), (1, .i a1), (4, .ref 73 0 l59.length), (6, .ptr 6 0 0), (23, .ref 25000 0 a0.Versions.length), (24, .i (a0.Versions.length : Int)), (25, .i v60), (33, .b (decide (x181.Timestamp ≤ a1)))] [(6, some (.box [.d (.lit (.string x181.Key)), .i x181.Timestamp, .b x181.Tombstone, .d (.sl (x181.Row.map cS53))])), (73, R43 l59), (1000, some (.box [.ref 25000 0 a0.Versions.length, .i a1])), (25000, R43 a0.Versions)]) Sub.tt ?_
     replace h := isome h; rcases h with ⟨c185, h⟩ | ⟨c185, h⟩
     ·have c185_ : decide (x181.Timestamp ≤ a1) = true := decide_eq_true c185
      refine Chain.sub (Sub.bool 33 (b := decide (x181.Timestamp ≤ a1)) rfl c185_) ?_
      refine Chain.sub (S' := mk 79 [1000] [(0, .ptr 1000 0 0), (1, .i a1), (4, .ref 73 0 l59.length), (6, .ptr 6 0 0), (23, .ref 25000 0 a0.Versions.length), (24, .i (a0.Versions.length : Int)), (25, .i v60), (33, .b true)] [(6, some (.box [.d (.lit (.string x181.Key)), .i x181.Timestamp, .b x181.Tombstone, .d (.sl (x181.Row.map cS53))])), (73, R43 l59), (1000, some (.box [.ref 25000 0 a0.Versions.length, .i a1])), (25000, R43 a0.Versions)]) (by simp; exact Sub.table (by simp) (by simp)) ?_
      refine Chain.runK [] 4 fun K hK => ?_; simp; refine hK _ _ ?_; clear hK K
      refine Chain.sub (S' := mk 79 [1000] [(0, .ptr 1000 0 0), (1, .i a1), (4, .ref 73 0 l59.length), (6, .ptr 6 0 0), (7, .b x181.Tombstone), (23, .ref 25000 0 a0.Versions.length), (24, .i (a0.Versions.length : Int)), (25, .i v60), (34, .ptr 6 0 2), (35, .b x181.Tombstone)] [(6, some (.box [.d (.lit (.string x181.Key)), .i x181.Timestamp, .b x181.Tombstone, .d (.sl (x181.Row.map cS53))])), (73, R43 l59), (1000, some (.box [.ref 25000 0 a0.Versions.length, .i a1])), (25000, R43 a0.Versions)]) Sub.tt ?_
      cases h
      exact Chain.nil Sub.tt
     ·have c185_ : decide (x181.Timestamp ≤ a1) = false := decide_eq_false c185
      refine Chain.sub (Sub.bool 33 (b := decide (x181.Timestamp ≤ a1)) rfl c185_) ?_
      refine Chain.sub (S' := mk 79 [1000] [(0, .ptr 1000 0 0), (1, .i a1), (4, .ref 73 0 l59.length), (6, .ptr 6 0 0), (23, .ref 25000 0 a0.Versions.length), (24, .i (a0.Versions.length : Int)), (25, .i v60), (33, .b false)] [(6, some (.box [.d (.lit (.string x181.Key)), .i x181.Timestamp, .b x181.Tombstone, .d (.sl (x181.Row.map cS53))])), (73, R43 l59), (1000, some (.box [.ref 25000 0 a0.Versions.length, .i a1])), (25000, R43 a0.Versions)]) (by simp; exact Sub.table (by simp) (by simp)) ?_
      refine Chain.runK [] 4 fun K hK => ?_; simp; refine hK _ _ ?_; clear hK K
      refine Chain.sub (S' := mk 79 [1000] [(0, .ptr 1000 0 0), (1, .i a1), (4, .ref 73 0 l59.length), (6, .ptr 6 0 0), (7, .b false), (23, .ref 25000 0 a0.Versions.length), (24, .i (a0.Versions.length : Int)), (25, .i v60), (34, .tup []), (35, .tup [])] [(6, some (.box [.d (.lit (.string x181.Key)), .i x181.Timestamp, .b x181.Tombstone, .d (.sl (x181.Row.map cS53))])), (73, R43 l59), (1000, some (.box [.ref 25000 0 a0.Versions.length, .i a1])), (25000, R43 a0.Versions)]) Sub.tt ?_
      cases h
      exact Chain.nil Sub.tt
    ·clear hj
     refine AW.seq ?_
     refine AW.seqR ?_
     refine Chain.runK [] 6 fun K hK => ?_; simp; refine hK _ _ ?_; clear hK K
     refine Chain.sub (S' := mk 79 [1000] [(0, .ptr 1000 0 0), (1, .i a1), (4, .ref 73 0 l59.length), (6, .ptr 6 0 0), (7, .b v184), (23, .ref 25000 0 a0.Versions.length), (24, .i (a0.Versions.length : Int)), (25, .i v60), (40, .ref 25000 0 a0.Versions.length), (41, .i (a0.Versions.length : Int)), (42, .i 0)] [(6, some (.box [.d (.lit (.string x181.Key)), .i x181.Timestamp, .b x181.Tombstone, .d (.sl (x181.Row.map cS53))])), (73, R43 l59), (1000, some (.box [.ref 25000 0 a0.Versions.length, .i a1])), (25000, R43 a0.Versions)]) Sub.tt ?_
     refine Chain.nil ?_
     refine AW.lastN (fun (v222 : Bool) => mk 79 [1000] [(0, .ptr 1000 0 0), (1, .i a1), (4, .ref 73 0 l59.length), (6, .ptr 6 0 0), (7, .b v222), (23, .ref 25000 0 a0.Versions.length), (24, .i (a0.Versions.length : Int)), (25, .i v60)] [(6, some (.box [.d (.lit (.string x181.Key)), .i x181.Timestamp, .b x181.Tombstone, .d (.sl (x181.Row.map cS53))])), (73, R43 l59), (1000, some (.box [.ref 25000 0 a0.Versions.length, .i a1])), (25000, R43 a0.Versions)]) h ?_ ?_ <;> clear h
     ·intro o h
      refine AW.block ?_
      refine AW.iter (fun ((v196, v197) : (Bool × Int)) => mk 79 [1000] [(0, .ptr 1000 0 0), (1, .i a1), (4, .ref 73 0 l59.length), (6, .ptr 6 0 0), (7, .b v196), (23, .ref 25000 0 a0.Versions.length), (24, .i (a0.Versions.length : Int)), (25, .i v60), (40, .ref 25000 0 a0.Versions.length), (41, .i (a0.Versions.length : Int)), (42, .i v197)] [(6, some (.box [.d (.lit (.string x181.Key)), .i x181.Timestamp, .b x181.Tombstone, .d (.sl (x181.Row.map cS53))])), (73, R43 l59), (1000, some (.box [.ref 25000 0 a0.Versions.length, .i a1])), (25000, R43 a0.Versions)]) h Sub.tt ?_
      clear h
      rintro ⟨v196, v197⟩ x h
      dsimp only at h ⊢
      refine AW.seqR ?_
      refine Chain.runK [] 1 fun K hK => ?_; simp; refine hK _ _ ?_; clear hK K
      refine Chain.sub (S' := mk 79 [1000] [(0, .ptr 1000 0 0), (1, .i a1), (4, .ref 73 0 l59.length), (6, .ptr 6 0 0), (7, .b v196), (23, .ref 25000 0 a0.Versions.length), (24, .i (a0.Versions.length : Int)), (25, .i v60), (40, .ref 25000 0 a0.Versions.length), (41, .i (a0.Versions.length : Int)), (42, .i v197), (43, .b (decide (v197 < (a0.Versions.length : Int))))] [(6, some (.box [.d (.lit (.string x181.Key)), .i x181.Timestamp, .b x181.Tombstone, .d (.sl (x181.Row.map cS53))])), (73, R43 l59), (1000, some (.box [.ref 25000 0 a0.Versions.length, .i a1])), (25000, R43 a0.Versions)]) Sub.tt ?_
      refine Chain.nil ?_
      refine AW.seq ?_
      replace h := isome h; rcases h with ⟨c223, h⟩ | ⟨c223, h⟩
      ·have c223_ : decide (v197 < (a0.Versions.length : Int)) = true := decide_eq_true c223
       refine AW.condT (b := decide (v197 < (a0.Versions.length : Int))) rfl c223_ ?_
       refine AW.sub (Sub.bool 43 (b := decide (v197 < (a0.Versions.length : Int))) rfl c223_) ?_
       refine AW.sub (S' := mk 79 [1000] [(0, .ptr 1000 0 0), (1, .i a1), (4, .ref 73 0 l59.length), (6, .ptr 6 0 0), (7, .b v196), (23, .ref 25000 0 a0.Versions.length), (24, .i (a0.Versions.length : Int)), (25, .i v60), (40, .ref 25000 0 a0.Versions.length), (41, .i (a0.Versions.length : Int)), (42, .i v197), (43, .b true)] [(6, some (.box [.d (.lit (.string x181.Key)), .i x181.Timestamp, .b x181.Tombstone, .d (.sl (x181.Row.map cS53))])), (73, R43 l59), (1000, some (.box [.ref 25000 0 a0.Versions.length, .i a1])), (25000, R43 a0.Versions)]) (by simp; exact Sub.table (by simp) (by simp)) ?_
       refine AW.skip ?_
       refine thenQ_normal ?_
       refine AW.seq ?_
       refine AW.block ?_
       refine AW.seqR ?_
       replace h := bsome h; obtain ⟨x224, hx224, h⟩ := h
       obtain ⟨k225, hx224k, hx224, hx224a, hx224b⟩ := idx_some hx224
       refine Chain.runK [] 4 fun K hK => ?_; simp [hx224, hx224k, hx224a, hx224b]; refine hK _ _ ?_; clear hK K
       refine Chain.sub (S' := mk 79 [1000] [(0, .ptr 1000 0 0), (1, .i a1), (4, .ref 73 0 l59.length), (6, .ptr 6 0 0), (7, .b v196), (9, .ptr 9 0 0), (23, .ref 25000 0 a0.Versions.length), (24, .i (a0.Versions.length : Int)), (25, .i v60), (40, .ref 25000 0 a0.Versions.length), (41, .i (a0.Versions.length : Int)), (42, .i v197)] [(6, some (.box [.d (.lit (.string x181.Key)), .i x181.Timestamp, .b x181.Tombstone, .d (.sl (x181.Row.map cS53))])), (9, some (.box [.d (.lit (.string x224.Key)), .i x224.Timestamp, .b x224.Tombstone, .d (.sl (x224.Row.map cS53))])), (73, R43 l59), (1000, some (.box [.ref 25000 0 a0.Versions.length, .i a1])), (25000, R43 a0.Versions)]) Sub.tt ?_
       refine Chain.nil ?_
       replace h := bsome h; obtain ⟨v229, hj, h⟩ := h
       refine AW.region (Chain.cut (mk 79 [1000] [(0, .ptr 1000 0 0), (1, .i a1), (4, .ref 73 0 l59.length), (6, .ptr 6 0 0), (7, .b v229), (23, .ref 25000 0 a0.Versions.length), (24, .i (a0.Versions.length : Int)), (25, .i v60), (40, .ref 25000 0 a0.Versions.length), (41, .i (a0.Versions.length : Int)), (42, .i v197)] [(6, some (.box [.d (.lit (.string x181.Key)), .i x181.Timestamp, .b x181.Tombstone, .d (.sl (x181.Row.map cS53))])), (73, R43 l59), (1000, some (.box [.ref 25000 0 a0.Versions.length, .i a1])), (25000, R43 a0.Versions)]) ?_ fun S' hS => ?_)
       ·clear h; have h := hj; clear hj
        refine Chain.runK [] 2 fun K hK => ?_; simp; refine hK _ _ ?_; clear hK K
        refine Chain.sub (S' := mk 79 [1000] [(0, .ptr 1000 0 0), (1, .i a1), (4, .ref 73 0 l59.length), (6, .ptr 6 0 0), (9, .ptr 9 0 0), (23, .ref 25000 0 a0.Versions.length), (24, .i (a0.Versions.length : Int)), (25, .i v60), (40, .ref 25000 0 a0.Versions.length), (41, .i (a0.Versions.length : Int)), (42, .i v197), (47, .b v196)] [(6, some (.box [.d (.lit (.string x181.Key)), .i x181.Timestamp, .b x181.Tombstone, .d (.sl (x181.Row.map cS53))])), (9, some (.box [.d (.lit (.string x224.Key)), .i x224.Timestamp, .b x224.Tombstone, .d (.sl (x224.Row.map cS53))])), (73, R43 l59), (1000, some (.box [.ref 25000 0 a0.Versions.length, .i a1])), (25000, R43 a0.Versions)]) Sub.tt ?_
        replace h := isome h; rcases h with ⟨c230, h⟩ | ⟨c230, h⟩
        ·have c230_ : v196 = true := c230
         refine Chain.sub (Sub.bool 47 (b := v196) rfl c230_) ?_
         refine Chain.sub (S' := mk 79 [1000] [(0, .ptr 1000 0 0), (1, .i a1), (4, .ref 73 0 l59.length), (6, .ptr 6 0 0), (9, .ptr 9 0 0), (23, .ref 25000 0 a0.Versions.length), (24, .i (a0.Versions.length : Int)), (25, .i v60), (40, .ref 25000 0 a0.Versions.length), (41, .i (a0.Versions.length : Int)), (42, .i v197), (47, .b true)] [(6, some (.box [.d (.lit (.string x181.Key)), .i x181.Timestamp, .b x181.Tombstone, .d (.sl (x181.Row.map cS53))])), (9, some (.box [.d (.lit (.string x224.Key)), .i x224.Timestamp, .b x224.Tombstone, .d (.sl (x224.Row.map cS53))])), (73, R43 l59), (1000, some (.box [.ref 25000 0 a0.Versions.length, .i a1])), (25000, R43 a0.Versions)]) (by simp; exact Sub.table (by simp) (by simp)) ?_
         refine Chain.runK [] 20 fun K hK => ?_; simp; refine hK _ _ ?_; clear hK K
         refine Chain.sub (S' := mk 79 [1000] [(0, .ptr 1000 0 0), (1, .i a1), (4, .ref 73 0 l59.length), (6, .ptr 6 0 0), (7, .b true), (23, .ref 25000 0 a0.Versions.length), (24, .i (a0.Versions.length : Int)), (25, .i v60), (40, .ref 25000 0 a0.Versions.length), (41, .i (a0.Versions.length : Int)), (42, .i v197), (48, .tup []), (49, .tup []), (50, .tup []), (51, .tup []), (52, .tup []), (53, .tup []), (54, .tup []), (55, .tup []), (56, .tup []), (57, .tup []), (58, .tup []), (59, .tup []), (60, .tup []), (61, .tup []), (62, .tup []), (63, .tup []), (64, .tup []), (65, .tup [])] [(6, some (.box [.d (.lit (.string x181.Key)), .i x181.Timestamp, .b x181.Tombstone, .d (.sl (x181.Row.map cS53))])), (73, R43 l59), (1000, some (.box [.ref 25000 0 a0.Versions.length, .i a1])), (25000, R43 a0.Versions)]) Sub.tt ?_
         cases h
         exact Chain.nil Sub.tt
        ·have c230_ : v196 = false := Bool.eq_false_iff.2 c230
         refine Chain.sub (Sub.bool 47 (b := v196) rfl c230_) ?_
         refine Chain.sub (S' := mk 79 [1000] [(0, .ptr 1000 0 0), (1, .i a1), (4, .ref 73 0 l59.length), (6, .ptr 6 0 0), (9, .ptr 9 0 0), (23, .ref 25000 0 a0.Versions.length), (24, .i (a0.Versions.length : Int)), (25, .i v60), (40, .ref 25000 0 a0.Versions.length), (41, .i (a0.Versions.length : Int)), (42, .i v197), (47, .b false)] [(6, some (.box [.d (.lit (.string x181.Key)), .i x181.Timestamp, .b x181.Tombstone, .d (.sl (x181.Row.map cS53))])), (9, some (.box [.d (.lit (.string x224.Key)), .i x224.Timestamp, .b x224.Tombstone, .d (.sl (x224.Row.map cS53))])), (73, R43 l59), (1000, some (.box [.ref 25000 0 a0.Versions.length, .i a1])), (25000, R43 a0.Versions)]) (by simp; exact Sub.table (by simp) (by simp)) ?_
         refine Chain.runK [] 6 fun K hK => ?_; simp; refine hK _ _ ?_; clear hK K
         refine Chain.sub (S' := mk 79 [1000] [(0, .ptr 1000 0 0), (1, .i a1), (4, .ref 73 0 l59.length), (6, .ptr 6 0 0), (9, .ptr 9 0 0), (23, .ref 25000 0 a0.Versions.length), (24, .i (a0.Versions.length : Int)), (25, .i v60), (40, .ref 25000 0 a0.Versions.length), (41, .i (a0.Versions.length : Int)), (42, .i v197), (47, .b false), (48, .ptr 9 0 0), (49, .d (.lit (.string x224.Key))), (50, .ptr 6 0 0), (51, .d (.lit (.string x181.Key))), (52, .b (decide (x224.Key = x181.Key))), (53, .b (decide (x224.Key = x181.Key)))] [(6, some (.box [.d (.lit (.string x181.Key)), .i x181.Timestamp, .b x181.Tombstone, .d (.sl (x181.Row.map cS53))])), (9, some (.box [.d (.lit (.string x224.Key)), .i x224.Timestamp, .b x224.Tombstone, .d (.sl (x224.Row.map cS53))])), (73, R43 l59), (1000, some (.box [.ref 25000 0 a0.Versions.length, .i a1])), (25000, R43 a0.Versions)]) Sub.tt ?_
         replace h := isome h; rcases h with ⟨c231, h⟩ | ⟨c231, h⟩
         ·have c231_ : decide (x224.Key = x181.Key) = true := c231
          refine Chain.sub (Sub.bool 52 (b := decide (x224.Key = x181.Key)) rfl c231_) ?_
          refine Chain.sub (Sub.bool 53 (b := decide (x224.Key = x181.Key)) rfl c231_) ?_
          refine Chain.sub (S' := mk 79 [1000] [(0, .ptr 1000 0 0), (1, .i a1), (4, .ref 73 0 l59.length), (6, .ptr 6 0 0), (9, .ptr 9 0 0), (23, .ref 25000 0 a0.Versions.length), (24, .i (a0.Versions.length : Int)), (25, .i v60), (40, .ref 25000 0 a0.Versions.length), (41, .i (a0.Versions.length : Int)), (42, .i v197), (47, .b false), (48, .ptr 9 0 0), (49, .d (.lit (.string x224.Key))), (50, .ptr 6 0 0), (51, .d (.lit (.string x181.Key))), (52, .b true), (53, .b true)] [(6, some (.box [.d (.lit (.string x181.Key)), .i x181.Timestamp, .b x181.Tombstone, .d (.sl (x181.Row.map cS53))])), (9, some (.box [.d (.lit (.string x224.Key)), .i x224.Timestamp, .b x224.Tombstone, .d (.sl (x224.Row.map cS53))])), (73, R43 l59), (1000, some (.box [.ref 25000 0 a0.Versions.length, .i a1])), (25000, R43 a0.Versions)]) (by simp; exact Sub.table (by simp) (by simp)) ?_
          refine Chain.runK [] 7 fun K hK => ?_; simp; refine hK _ _ ?_; clear hK K
          refine Chain.sub (S' := mk 79 [1000] [(0, .ptr 1000 0 0), (1, .i a1), (4, .ref 73 0 l59.length), (6, .ptr 6 0 0), (9, .ptr 9 0 0), (23, .ref 25000 0 a0.Versions.length), (24, .i (a0.Versions.length : Int)), (25, .i v60), (40, .ref 25000 0 a0.Versions.length), (41, .i (a0.Versions.length : Int)), (42, .i v197), (47, .b false), (48, .ptr 9 0 0), (49, .d (.lit (.string x224.Key))), (50, .ptr 6 0 0), (51, .d (.lit (.string x181.Key))), (52, .b true), (53, .b true), (54, .ptr 9 0 1), (55, .i x224.Timestamp), (56, .ptr 6 0 1), (57, .i x181.Timestamp), (58, .b (decide (x224.Timestamp > x181.Timestamp))), (59, .b (decide (x224.Timestamp > x181.Timestamp))), (60, .b (decide (x224.Timestamp > x181.Timestamp)))] [(6, some (.box [.d (.lit (.string x181.Key)), .i x181.Timestamp, .b x181.Tombstone, .d (.sl (x181.Row.map cS53))])), (9, some (.box [.d (.lit (.string x224.Key)), .i x224.Timestamp, .b x224.Tombstone, .d (.sl (x224.Row.map cS53))])), (73, R43 l59), (1000, some (.box [.ref 25000 0 a0.Versions.length, .i a1])), (25000, R43 a0.Versions)]) Sub.tt ?_
          replace h := isome h; rcases h with ⟨c232, h⟩ | ⟨c232, h⟩
          ·have c232_ : decide (x224.Timestamp > x181.Timestamp) = true := decide_eq_true c232
           refine Chain.sub (Sub.bool 58 (b := decide (x224.Timestamp > x181.Timestamp)) rfl c232_) ?_
           refine Chain.sub (Sub.bool 59 (b := decide (x224.Timestamp > x181.Timestamp)) rfl c232_) ?_
           refine Chain.sub (Sub.bool 60 (b := decide (x224.Timestamp > x181.Timestamp)) rfl c232_) ?_
           refine Chain.sub (S' := mk 79 [1000] [(0, .ptr 1000 0 0), (1, .i a1), (4, .ref 73 0 l59.length), (6, .ptr 6 0 0), (9, .ptr 9 0 0), (23, .ref 25000 0 a0.Versions.length), (24, .i (a0.Versions.length : Int)), (25, .i v60), (40, .ref 25000 0 a0.Versions.length), (41, .i (a0.Versions.length : Int)), (42, .i v197), (47, .b false), (48, .ptr 9 0 0), (49, .d (.lit (.string x224.Key))), (50, .ptr 6 0 0), (51, .d (.lit (.string x181.Key))), (52, .b true), (53, .b true), (54, .ptr 9 0 1), (55, .i x224.Timestamp), (56, .ptr 6 0 1), (57, .i x181.Timestamp), (58, .b true), (59, .b true), (60, .b true)] [(6, some (.box [.d (.lit (.string x181.Key)), .i x181.Timestamp, .b x181.Tombstone, .d (.sl (x181.Row.map cS53))])), (9, some (.box [.d (.lit (.string x224.Key)), .i x224.Timestamp, .b x224.Tombstone, .d (.sl (x224.Row.map cS53))])), (73, R43 l59), (1000, some (.box [.ref 25000 0 a0.Versions.length, .i a1])), (25000, R43 a0.Versions)]) (by simp; exact Sub.table (by simp) (by simp)) ?_
           refine Chain.runK [] 7 fun K hK => ?_; simp; refine hK _ _ ?_; clear hK K
           refine Chain.sub (S' := mk 79 [1000] [(0, .ptr 1000 0 0), (1, .i a1), (4, .ref 73 0 l59.length), (6, .ptr 6 0 0), (7, .b (decide (x224.Timestamp ≤ a1))), (23, .ref 25000 0 a0.Versions.length), (24, .i (a0.Versions.length : Int)), (25, .i v60), (40, .ref 25000 0 a0.Versions.length), (41, .i (a0.Versions.length : Int)), (42, .i v197), (48, .ptr 9 0 0), (49, .d (.lit (.string x224.Key))), (50, .ptr 6 0 0), (51, .d (.lit (.string x181.Key))), (52, .b true), (53, .b true), (54, .ptr 9 0 1), (55, .i x224.Timestamp), (56, .ptr 6 0 1), (57, .i x181.Timestamp), (58, .b true), (59, .b true), (60, .b true), (61, .ptr 9 0 1), (62, .i x224.Timestamp), (63, .i a1), (64, .b (decide (x224.Timestamp ≤ a1))), (65, .b (decide (x224.Timestamp ≤ a1)))] [(6, some (.box [.d (.lit (.string x181.Key)), .i x181.Timestamp, .b x181.Tombstone, .d (.sl (x181.Row.map cS53))])), (9, some (.box [.d (.lit (.string x224.Key)), .i x224.Timestamp, .b x224.Tombstone, .d (.sl (x224.Row.map cS53))])), (73, R43 l59), (1000, some (.box [.ref 25000 0 a0.Versions.length, .i a1])), (25000, R43 a0.Versions)]) Sub.tt ?_
           cases h
           exact Chain.nil Sub.tt
          ·have c232_ : decide (x224.Timestamp > x181.Timestamp) = false := decide_eq_false c232
           refine Chain.sub (Sub.bool 58 (b := decide (x224.Timestamp > x181.Timestamp)) rfl c232_) ?_
           refine Chain.sub (Sub.bool 59 (b := decide (x224.Timestamp > x181.Timestamp)) rfl c232_) ?_
           refine Chain.sub (Sub.bool 60 (b := decide (x224.Timestamp > x181.Timestamp)) rfl c232_) ?_
           refine Chain.sub (S' := mk 79 [1000] [(0, .ptr 1000 0 0), (1, .i a1), (4, .ref 73 0 l59.length), (6, .ptr 6 0 0), (9, .ptr 9 0 0), (23, .ref 25000 0 a0.Versions.length), (24, .i (a0.Versions.length : Int)), (25, .i v60), (40, .ref 25000 0 a0.Versions.length), (41, .i (a0.Versions.length : Int)), (42, .i v197), (47, .b false), (48, .ptr 9 0 0), (49, .d (.lit (.string x224.Key))), (50, .ptr 6 0 0), (51, .d (.lit (.string x181.Key))), (52, .b true), (53, .b true), (54, .ptr 9 0 1), (55, .i x224.Timestamp), (56, .ptr 6 0 1), (57, .i x181.Timestamp), (58, .b false), (59, .b false), (60, .b false)] [(6, some (.box [.d (.lit (.string x181.Key)), .i x181.Timestamp, .b x181.Tombstone, .d (.sl (x181.Row.map cS53))])), (9, some (.box [.d (.lit (.string x224.Key)), .i x224.Timestamp, .b x224.Tombstone, .d (.sl (x224.Row.map cS53))])), (73, R43 l59), (1000, some (.box [.ref 25000 0 a0.Versions.length, .i a1])), (25000, R43 a0.Versions)]) (by simp; exact Sub.table (by simp) (by simp)) ?_
           refine Chain.runK [] 7 fun K hK => ?_; simp; refine hK _ _ ?_; clear hK K
           refine Chain.sub (S' := mk 79 [1000] [(0, .ptr 1000 0 0), (1, .i a1), (4, .ref 73 0 l59.length), (6, .ptr 6 0 0), (7, .b false), (23, .ref 25000 0 a0.Versions.length), (24, .i (a0.Versions.length : Int)), (25, .i v60), (40, .ref 25000 0 a0.Versions.length), (41, .i (a0.Versions.length : Int)), (42, .i v197), (48, .ptr 9 0 0), (49, .d (.lit (.string x224.Key))), (50, .ptr 6 0 0), (51, .d (.lit (.string x181.Key))), (52, .b true), (53, .b true), (54, .ptr 9 0 1), (55, .i x224.Timestamp), (56, .ptr 6 0 1), (57, .i x181.Timestamp), (58, .b false), (59, .b false), (60, .b false), (61, .tup []), (62, .tup []), (63, .tup []), (64, .tup []), (65, .b false)] [(6, some (.box [.d (.lit (.string x181.Key)), .i x181.Timestamp, .b x181.Tombstone, .d (.sl (x181.Row.map cS53))])), (9, some (.box [.d (.lit (.string x224.Key)), .i x224.Timestamp, .b x224.Tombstone, .d (.sl (x224.Row.map cS53))])), (73, R43 l59), (1000, some (.box [.ref 25000 0 a0.Versions.length, .i a1])), (25000, R43 a0.Versions)]) Sub.tt ?_
           cases h
           exact Chain.nil Sub.tt
         ·have c231_ : decide (x224.Key = x181.Key) = false := Bool.eq_false_iff.2 c231
          refine Chain.sub (Sub.bool 52 (b := decide (x224.Key = x181.Key)) rfl c231_) ?_
          refine Chain.sub (Sub.bool 53 (b := decide (x224.Key = x181.Key)) rfl c231_) ?_
          refine Chain.sub (S' := mk 79 [1000] [(0, .ptr 1000 0 0), (1, .i a1), (4, .ref 73 0 l59.length), (6, .ptr 6 0 0), (9, .ptr 9 0 0), (23, .ref 25000 0 a0.Versions.length), (24, .i (a0.Versions.length : Int)), (25, .i v60), (40, .ref 25000 0 a0.Versions.length), (41, .i (a0.Versions.length : Int)), (42, .i v197), (47, .b false), (48, .ptr 9 0 0), (49, .d (.lit (.string x224.Key))), (50, .ptr 6 0 0), (51, .d (.lit (.string x181.Key))), (52, .b false), (53, .b false)] [(6, some (.box [.d (.lit (.string x181.Key)), .i x181.Timestamp, .b x181.Tombstone, .d (.sl (x181.Row.map cS53))])), (9, some (.box [.d (.lit (.string x224.Key)), .i x224.Timestamp, .b x224.Tombstone, .d (.sl (x224.Row.map cS53))])), (73, R43 l59), (1000, some (.box [.ref 25000 0 a0.Versions.length, .i a1])), (25000, R43 a0.Versions)]) (by simp; exact Sub.table (by simp) (by simp)) ?_
          refine Chain.runK [] 14 fun K hK => ?_; simp; refine hK _ _ ?_; clear hK K
          refine Chain.sub (S' := mk 79 [1000] [(0, .ptr 1000 0 0), (1, .i a1), (4, .ref 73 0 l59.length), (6, .ptr 6 0 0), (7, .b false), (23, .ref 25000 0 a0.Versions.length), (24, .i (a0.Versions.length : Int)), (25, .i v60), (40, .ref 25000 0 a0.Versions.length), (41, .i (a0.Versions.length : Int)), (42, .i v197), (48, .ptr 9 0 0), (49, .d (.lit (.string x224.Key))), (50, .ptr 6 0 0), (51, .d (.lit (.string x181.Key))), (52, .b false), (53, .b false), (54, .tup []), (55, .tup []), (56, .tup []), (57, .tup []), (58, .tup []), (59, .b false), (60, .b false), (61, .tup []), (62, .tup []), (63, .tup []), (64, .tup []), (65, .b false)] [(6, some (.box [.d (.lit (.string x181.Key)), .i x181.Timestamp, .b x181.Tombstone, .d (.sl (x181.Row.map cS53))])), (9, some (.box [.d (.lit (.string x224.Key)), .i x224.Timestamp, .b x224.Tombstone, .d (.sl (x224.Row.map cS53))])), (73, R43 l59), (1000, some (.box [.ref 25000 0 a0.Versions.length, .i a1])), (25000, R43 a0.Versions)]) Sub.tt ?_
          cases h
          exact Chain.nil Sub.tt
       ·clear hj
        refine blockQ.normal ?_
        refine thenQ_normal ?_
        refine AW.sub hS ?_
        refine AW.region ?_
        replace h := bsome h; obtain ⟨v233, hv233, h⟩ := h
        have hv233 := chkI_some hv233
        refine Chain.runK [] 2 fun K hK => ?_; simp [hv233]; refine hK _ _ ?_; clear hK K
        refine Chain.sub (S' := mk 79 [1000] [(0, .ptr 1000 0 0), (1, .i a1), (4, .ref 73 0 l59.length), (6, .ptr 6 0 0), (7, .b v229), (23, .ref 25000 0 a0.Versions.length), (24, .i (a0.Versions.length : Int)), (25, .i v60), (40, .ref 25000 0 a0.Versions.length), (41, .i (a0.Versions.length : Int)), (42, .i v233)] [(6, some (.box [.d (.lit (.string x181.Key)), .i x181.Timestamp, .b x181.Tombstone, .d (.sl (x181.Row.map cS53))])), (73, R43 l59), (1000, some (.box [.ref 25000 0 a0.Versions.length, .i a1])), (25000, R43 a0.Versions)]) Sub.tt ?_
        refine Chain.nil ?_
        cases h
        refine PostI.next ?_
        exact Sub.tt
      ·have c223_ : decide (v197 < (a0.Versions.length : Int)) = false := decide_eq_false c223
       refine AW.condF (b := decide (v197 < (a0.Versions.length : Int))) rfl c223_ ?_
       refine AW.sub (Sub.bool 43 (b := decide (v197 < (a0.Versions.length : Int))) rfl c223_) ?_
       refine AW.sub (S' := mk 79 [1000] [(0, .ptr 1000 0 0), (1, .i a1), (4, .ref 73 0 l59.length), (6, .ptr 6 0 0), (7, .b v196), (23, .ref 25000 0 a0.Versions.length), (24, .i (a0.Versions.length : Int)), (25, .i v60), (40, .ref 25000 0 a0.Versions.length), (41, .i (a0.Versions.length : Int)), (42, .i v197), (43, .b false)] [(6, some (.box [.d (.lit (.string x181.Key)), .i x181.Timestamp, .b x181.Tombstone, .d (.sl (x181.Row.map cS53))])), (73, R43 l59), (1000, some (.box [.ref 25000 0 a0.Versions.length, .i a1])), (25000, R43 a0.Versions)]) (by simp; exact Sub.table (by simp) (by simp)) ?_
       refine AW.exit ?_
       cases h
       refine thenQ_pass (by simp) ?_
       refine PostI.out (by simp) ?_
       rintro rfl
       refine blockQ.hit ?_
       refine PostN.next ?_
       exact Sub.tt
     ·rintro v222 h
      refine thenQ_normal ?_
      refine AW.seqR ?_
      refine Chain.runK [] 2 fun K hK => ?_; simp; refine hK _ _ ?_; clear hK K
      refine Chain.sub (S' := mk 79 [1000] [(0, .ptr 1000 0 0), (1, .i a1), (4, .ref 73 0 l59.length), (6, .ptr 6 0 0), (23, .ref 25000 0 a0.Versions.length), (24, .i (a0.Versions.length : Int)), (25, .i v60), (69, .b (!v222))] [(6, some (.box [.d (.lit (.string x181.Key)), .i x181.Timestamp, .b x181.Tombstone, .d (.sl (x181.Row.map cS53))])), (73, R43 l59), (1000, some (.box [.ref 25000 0 a0.Versions.length, .i a1])), (25000, R43 a0.Versions)]) Sub.tt ?_
      refine Chain.nil ?_
      replace h := isome h; rcases h with ⟨c234, h⟩ | ⟨c234, h⟩
      ·have c234_ : (!v222) = true := c234
       refine AW.condT (b := (!v222)) rfl c234_ ?_
       refine AW.sub (Sub.bool 69 (b := (!v222)) rfl c234_) ?_
       refine AW.sub (S' := mk 79 [1000] [(0, .ptr 1000 0 0), (1, .i a1), (4, .ref 73 0 l59.length), (6, .ptr 6 0 0), (23, .ref 25000 0 a0.Versions.length), (24, .i (a0.Versions.length : Int)), (25, .i v60), (69, .b true)] [(6, some (.box [.d (.lit (.string x181.Key)), .i x181.Timestamp, .b x181.Tombstone, .d (.sl (x181.Row.map cS53))])), (73, R43 l59), (1000, some (.box [.ref 25000 0 a0.Versions.length, .i a1])), (25000, R43 a0.Versions)]) (by simp; exact Sub.table (by simp) (by simp)) ?_
       refine AW.region ?_
       replace h := bsome h; obtain ⟨l235, hl235, h⟩ := h
       obtain ⟨hl235a, hl235⟩ := appL_some hl235
       subst hl235
       try simp only [List.length_cons, List.length_nil, Nat.zero_add] at hl235a
       refine Chain.runK [72] 5 fun K hK => ?_; simp [hl235a]; refine hK _ _ ?_; clear hK K
       refine Chain.sub (S' := mk 79 [1000] [(0, .ptr 1000 0 0), (1, .i a1), (4, .ref 73 0 ((l59 ++ [x181]).length)), (23, .ref 25000 0 a0.Versions.length), (24, .i (a0.Versions.length : Int)), (25, .i v60)] [(73, R43 (l59 ++ [x181])), (1000, some (.box [.ref 25000 0 a0.Versions.length, .i a1])), (25000, R43 a0.Versions)]) Sub.tt ?_
       refine Chain.nil ?_
       refine blockQ.normal ?_
       refine thenQ_normal ?_
       refine AW.region ?_
       replace h := bsome h; obtain ⟨v236, hv236, h⟩ := h
       have hv236 := chkI_some hv236
       refine Chain.runK [] 2 fun K hK => ?_; simp [hv236]; refine hK _ _ ?_; clear hK K
       refine Chain.sub (S' := mk 79 [1000] [(0, .ptr 1000 0 0), (1, .i a1), (4, .ref 73 0 ((l59 ++ [x181]).length)), (23, .ref 25000 0 a0.Versions.length), (24, .i (a0.Versions.length : Int)), (25, .i v236)] [(73, R43 (l59 ++ [x181])), (1000, some (.box [.ref 25000 0 a0.Versions.length, .i a1])), (25000, R43 a0.Versions)]) Sub.tt ?_
       refine Chain.nil ?_
       cases h
       refine PostI.next ?_
       exact Sub.tt
      ·have c234_ : (!v222) = false := Bool.eq_false_iff.2 c234
       refine AW.condF (b := (!v222)) rfl c234_ ?_
       refine AW.sub (Sub.bool 69 (b := (!v222)) rfl c234_) ?_
       refine AW.sub (S' := mk 79 [1000] [(0, .ptr 1000 0 0), (1, .i a1), (4, .ref 73 0 l59.length), (6, .ptr 6 0 0), (23, .ref 25000 0 a0.Versions.length), (24, .i (a0.Versions.length : Int)), (25, .i v60), (69, .b false)] [(6, some (.box [.d (.lit (.string x181.Key)), .i x181.Timestamp, .b x181.Tombstone, .d (.sl (x181.Row.map cS53))])), (73, R43 l59), (1000, some (.box [.ref 25000 0 a0.Versions.length, .i a1])), (25000, R43 a0.Versions)]) (by simp; exact Sub.table (by simp) (by simp)) ?_
       refine AW.skip ?_
       refine blockQ.normal ?_
       refine thenQ_normal ?_
       refine AW.region ?_
       replace h := bsome h; obtain ⟨v237, hv237, h⟩ := h
       have hv237 := chkI_some hv237
       refine Chain.runK [] 2 fun K hK => ?_; simp [hv237]; refine hK _ _ ?_; clear hK K
       refine Chain.sub (S' := mk 79 [1000] [(0, .ptr 1000 0 0), (1, .i a1), (4, .ref 73 0 l59.length), (23, .ref 25000 0 a0.Versions.length), (24, .i (a0.Versions.length : Int)), (25, .i v237)] [(73, R43 l59), (1000, some (.box [.ref 25000 0 a0.Versions.length, .i a1])), (25000, R43 a0.Versions)]) Sub.tt ?_
       refine Chain.nil ?_
       cases h
       refine PostI.next ?_
       exact Sub.tt
   ·have c180_ : decide (v60 < (a0.Versions.length : Int)) = false := decide_eq_false c180
    refine AW.condF (b := decide (v60 < (a0.Versions.length : Int))) rfl c180_ ?_
    refine AW.sub (Sub.bool 26 (b := decide (v60 < (a0.Versions.length : Int))) rfl c180_) ?_
    refine AW.sub (S' := mk 79 [1000] [(0, .ptr 1000 0 0), (1, .i a1), (4, .ref 73 0 l59.length), (23, .ref 25000 0 a0.Versions.length), (24, .i (a0.Versions.length : Int)), (25, .i v60), (26, .b false)] [(73, R43 l59), (1000, some (.box [.ref 25000 0 a0.Versions.length, .i a1])), (25000, R43 a0.Versions)]) (by simp; exact Sub.table (by simp) (by simp)) ?_
    refine AW.exit ?_
    cases h
    refine thenQ_pass (by simp) ?_
    refine PostI.out (by simp) ?_
    rintro rfl
    refine blockQ.hit ?_
    refine PostN.next ?_
    exact Sub.tt
  ·rintro l179 h
   refine thenQ_normal ?_
   refine AW.region ?_
   refine Chain.runK [] 5 fun K hK => ?_; simp; refine hK _ _ ?_; clear hK K
   refine Chain.sub (S' := mk 79 [1000] [] [(73, R43 l179), (1000, some (.box [.ref 73 0 l179.length, .i a1]))]) Sub.tt ?_
   refine Chain.sub (S' := mk 79 [1000] [] [(1000, some (.box [.ref 25000 0 l179.length, .i a1])), (25000, R43 l179)]) (Sub.names [(73, 25000), (1000, 1000)] (by simp) (by simp) (by simp [back]) (by simp [V.rnm]) (by simp [back, Blk.rnm, V.rnm, rnmL, lk2])) ?_
   refine Chain.nil ?_
   cases h
   exact FinF.normal (by simp) (by simp)

set_option maxRecDepth 100000 in
set_option maxHeartbeats 2000000 in
attribute [local go_sem] Oper.semAt_some in
open Go.RowKit Go.Shelf in
theorem bc41 : BackC Try.prog 41 3 := by
 intro pb po l N J Jx W hN hbase hY h0
 refine callsIn_of_wp Try.func41 rfl trivial ?_ rfl
 simp only [show Try.f41.ntmps = 19 from rfl, List.size_toArray, List.length_cons, List.length_nil, Nat.reduceAdd, Nat.reduceSub, Array.replicate_succ, Array.replicate_zero, List.push_toArray, List.append_toArray, List.nil_append, List.cons_append]
 have hN : N ≤ 9223372036854775807 := hN
 obtain ⟨A, cap, hb0⟩ := hbase 0 W (Nat.zero_le _) h0
 gi_wp2
 gi_loopw [3] (fun i wr => ∃ k : Nat, k ≤ N ∧ i = .int .i64 ((N : Int) - 1 - k) ∧ J k wr) (fun i _ => (intOf i + 1).toNat)
 case atStart => exact ⟨0, Nat.zero_le _, by simp, h0⟩
 case round =>
  obtain ⟨k, hk, rfl, hJs⟩ := hrel
  by_cases hlt : k < N
  ·obtain ⟨args, ⟨b, off, cap, vs, hc, hra, hvl, rfl⟩, fn, tmps, assign, body, hy, hR⟩ := hY k wr hlt hJs
   obtain ⟨j, hj⟩ : ∃ j : Nat, N - 1 - k = j := ⟨_, rfl⟩
   have hji : (N : Int) - 1 - k = (j : Int) := by omega
   have hjl : j < N := by omega
   rw [hj] at hra hy
   rw [hji]
   obtain ⟨c0_, c1_, c2_, rfl⟩ : ∃ c0_ c1_ c2_, vs = [c0_, c1_, c2_] := by
    match vs, hvl with
    | [c0_, c1_, c2_], _ => exact ⟨c0_, c1_, c2_, rfl⟩
   have hc0_ := hra 0 c0_ rfl; have hc1_ := hra 1 c1_ rfl; have hc2_ := hra 2 c2_ rfl
   simp only [Nat.add_zero] at hc0_
   simp only [elemW] at hy
   gi_wp2
   refine hR.mono ?_
   rintro e W3 (⟨rfl, hJ3⟩ | ⟨rfl, hJx3⟩)
   ·gi_wp2
    go_roundw
    case rel => exact ⟨k + 1, by omega, by simp; omega, hJ3⟩
    case measure => simp [intOf]
   ·gi_wp2
    refine bodyPost_ret (results_none rfl _ _ _) rfl ?_
    exact ⟨⟨_, rfl⟩, .inr hJx3⟩
  ·obtain rfl : k = N := by omega
   have hji : (k : Int) - 1 - k = -1 := by omega
   rw [hji]
   gi_wp2
   go_end0
   exact ⟨⟨_, rfl⟩, .inl hJs⟩

theorem pbo36 {α : Type} (c : α → List D) (xs : List α) : FunM Try.prog 36 [.ref 1000 0 xs.length] [(1000, some (.arr 67 3 (xs.map c)))] [1000] (.fn (.func 41) [.ptr 1 0 0]) [(1, .box [.ref 1000 0 xs.length]), (1000, .arr 67 3 (xs.map c))] := by
 refine FunM.enter 4 [(0, .ref 1000 0 xs.length)] Try.func36 rfl (of_decide_eq_true rfl) rfl rfl ?_
 refine AW.goR [] 2 fun K hK => ?_; simp; refine hK _ ?_; clear hK K
 refine AW.goR [] 2 fun K hK => ?_; simp; refine hK _ ?_; clear hK K
 refine AW.ret ?_
 exact FinF.ret (by simp) (by simp)
theorem pbd36 (es : List (List D)) : FunM Try.prog 36 [.d (.sl es)] [] [] (.fn (.func 41) [.ptr 1 0 0]) [(1, .box [.d (.sl es)])] := by
 refine FunM.enter 4 [(0, .d (.sl es))] Try.func36 rfl (of_decide_eq_true rfl) rfl rfl ?_
 refine AW.goR [] 2 fun K hK => ?_; simp; refine hK _ ?_; clear hK K
 refine AW.goR [] 2 fun K hK => ?_; simp; refine hK _ ?_; clear hK K
 refine AW.ret ?_
 exact FinF.ret (by simp) (by simp)

/-- (stemma/mvcc.chain).visible -/
def d28 (_N : Nat) (a0 : S72) (a1 : Int) : Option (S67 × Bool) :=
 bindO (β := Unit) (ρ := (S67 × Bool)) (
  rangeL (α := S67) (β := Unit) (ρ := (S67 × Bool)) (fun (x1 : S67) => fun (_ : Unit) =>
   if x1.timestamp ≤ a1 then (
    some (.ret (x1, (!x1.tombstone)))
   ) else
   some (.go ())
  ) (a0.versions).reverse ()
 ) fun (_ : Unit) =>
 some ((S67.mk 0 false ([] : List S53)), false)
set_option maxRecDepth 100000 in
set_option maxHeartbeats 4000000 in
theorem p28 (N : Nat) (a0 : S72) (a1 : Int) (r : (S67 × Bool)) (h : d28 N a0 a1 = some r) : FunC Try.prog 28 [.agg [.d (.lit (.string a0.key)), .d (.sl (a0.versions.map cS67))], .i a1] (.tup [.agg [.i r.1.timestamp, .b r.1.tombstone, .d (.sl (r.1.row.map cS53))], .b r.2]) := by
 unfold d28 at h
 refine FunC.enter 22 [(0, .agg [.d (.lit (.string a0.key)), .d (.sl (a0.versions.map cS67))]), (1, .i a1)] (by simp) Try.func28 rfl (of_decide_eq_true rfl) rfl rfl ?_
 refine AW.seqR ?_
 refine Chain.runK [] 4 fun K hK => ?_; simp; refine hK _ _ ?_; clear hK K
 refine Chain.sub (S' := mk 22 [] [(2, .ptr 2 0 0), (3, .ptr 3 0 0), (4, .ptr 4 0 0), (5, .ptr 5 0 0)] [(2, some (.box [.d (.lit (.string a0.key)), .d (.sl (a0.versions.map cS67))])), (3, some (.box [.i a1])), (4, some (.box [.i 0, .b false, .d (.lit (.slice none 0 0))])), (5, some (.box [.b false]))]) Sub.tt ?_
 refine Chain.nil ?_
 refine AW.seq ?_
 refine AW.seqR ?_
 refine Chain.runK [] 2 fun K hK => ?_; simp; refine hK _ _ ?_; clear hK K
 refine Chain.sub (S' := mk 22 [] [(3, .ptr 3 0 0), (4, .ptr 4 0 0), (5, .ptr 5 0 0), (9, .d (.sl (a0.versions.map cS67)))] [(3, some (.box [.i a1])), (4, some (.box [.i 0, .b false, .d (.lit (.slice none 0 0))])), (5, some (.box [.b false]))]) Sub.tt ?_
 refine Chain.callF (pbd36 (a0.versions.map cS67)) [] [] [(1, 10)] [(10, .box [.d (.sl (a0.versions.map cS67))])] (.fn (.func 41) [.ptr 10 0 0]) (by simp) rfl (by simp <;> rfl) (by simp) (by simp) (by simp) (by simp) (by simp) ent36 (by simp) (by simp) (by simp) (by simp) (by simp) (by simp) ?_
 refine Chain.sub (S' := mk 22 [] [(3, .ptr 3 0 0), (4, .ptr 4 0 0), (5, .ptr 5 0 0), (9, .d (.sl (a0.versions.map cS67))), (10, .fn (.func 41) [.ptr 10 0 0])] [(3, some (.box [.i a1])), (4, some (.box [.i 0, .b false, .d (.lit (.slice none 0 0))])), (5, some (.box [.b false])), (10, some (.box [.d (.sl (a0.versions.map cS67))]))]) (by simp; exact Sub.table (by simp) (by simp)) ?_
 refine Chain.nil ?_
 refine AW.block ?_
 refine AW.lastJ (fun b => mk 22 [] [(3, .ptr 3 0 0), (4, .ptr 4 0 0), (5, .ptr 5 0 0), (10, .fn (.func 41) [.ptr 10 0 0])] ((fun (b : Unit) => [(3, some (.box [.i a1])), (4, some (.box [.i 0, .b false, .d (.lit (.slice none 0 0))])), (5, some (.box [.b false])), (10, some (.box [.d (.sl (a0.versions.map cS67))]))]) b)) h ?_ ?_ <;> clear h
 ·intro o h
  refine AW.back (nt := 22) (rts := []) (l := [(3, .ptr 3 0 0), (4, .ptr 4 0 0), (5, .ptr 5 0 0), (10, .fn (.func 41) [.ptr 10 0 0])]) (c := cS67) (xs := a0.versions) (B := 10) (fun (b : Unit) => [(3, some (.box [.d (.lit (.int .i64 a1))])), (4, some (.box [.d (.lit (.int .i64 0)), .d (.lit (.bool false)), .d (.lit (.slice none 0 0))])), (5, some (.box [.d (.lit (.bool false))])), (10, some (.box [.d (.sl (a0.versions.map cS67))]))]) [3, 4, 5, 10] bc41 ent41 Sub.tt rfl (by intros; rfl) (by intros; exact SrcOk.data (by simp)) (fun _ => rfl) (by simp) (by simp [V.has]) h ?_
  clear h
  rintro ⟨⟩ x1 o' h
  try dsimp only at h ⊢
  refine AW.sub (S' := mk 22 [3, 4, 5, 10] [(3, .ptr 3 0 0), (4, .ptr 4 0 0), (5, .ptr 5 0 0), (12, .agg [.i x1.timestamp, .b x1.tombstone, .d (.sl (x1.row.map cS53))])] [(3, some (.box [.i a1])), (4, some (.box [.i 0, .b false, .d (.lit (.slice none 0 0))])), (5, some (.box [.b false])), (10, some (.box [.d (.sl (a0.versions.map cS67))]))]) (by simp; exact Sub.table (by simp) (by simp)) ?_
  refine AW.region ?_
  refine Chain.runK [] 2 fun K hK => ?_; simp; refine hK _ _ ?_; clear hK K
  refine Chain.sub (S' := mk 22 [3, 4, 5, 10] [(3, .ptr 3 0 0), (4, .ptr 4 0 0), (5, .ptr 5 0 0), (7, .ptr 7 0 0)] [(3, some (.box [.i a1])), (4, some (.box [.i 0, .b false, .d (.lit (.slice none 0 0))])), (5, some (.box [.b false])), (7, some (.box [.i x1.timestamp, .b x1.tombstone, .d (.sl (x1.row.map cS53))])), (10, some (.box [.d (.sl (a0.versions.map cS67))]))]) Sub.tt ?_
  refine Chain.nil ?_
  refine thenQ_normal ?_
  refine AW.block ?_
  refine AW.seqR ?_
  refine Chain.runK [] 4 fun K hK => ?_; simp; refine hK _ _ ?_; clear hK K
  refine Chain.sub (S' := mk 22 [3, 4, 5, 10] [(4, .ptr 4 0 0), (5, .ptr 5 0 0), (7, .ptr 7 0 0), (16, .b (decide (x1.timestamp ≤ a1)))] [(3, some (.box [.i a1])), (4, some (.box [.i 0, .b false, .d (.lit (.slice none 0 0))])), (5, some (.box [.b false])), (7, some (.box [.i x1.timestamp, .b x1.tombstone, .d (.sl (x1.row.map cS53))])), (10, some (.box [.d (.sl (a0.versions.map cS67))]))]) Sub.tt ?_
  refine Chain.nil ?_
  replace h := isome h; rcases h with ⟨c4, h⟩ | ⟨c4, h⟩
  ·have c4_ : decide (x1.timestamp ≤ a1) = true := decide_eq_true c4
   refine AW.condT (b := decide (x1.timestamp ≤ a1)) rfl c4_ ?_
   refine AW.sub (Sub.bool 16 (b := decide (x1.timestamp ≤ a1)) rfl c4_) ?_
   refine AW.sub (S' := mk 22 [3, 4, 5, 10] [(4, .ptr 4 0 0), (5, .ptr 5 0 0), (7, .ptr 7 0 0), (16, .b true)] [(3, some (.box [.i a1])), (4, some (.box [.i 0, .b false, .d (.lit (.slice none 0 0))])), (5, some (.box [.b false])), (7, some (.box [.i x1.timestamp, .b x1.tombstone, .d (.sl (x1.row.map cS53))])), (10, some (.box [.d (.sl (a0.versions.map cS67))]))]) (by simp; exact Sub.table (by simp) (by simp)) ?_
   refine AW.seqAnyS [[], [], [1], [1, 2], [0], [0, 1, 2, 3, 4]] (fun (b : Nat → Bool) => mk 22 [3, 4, 5, 10] [(4, .ptr 4 0 0), (5, .ptr 5 0 0), (7, .ptr 7 0 0), (17, (if b 0 then .agg [.i x1.timestamp, .b x1.tombstone, .d (.sl (x1.row.map cS53))] else .junk)), (18, (if b 1 then .ptr 7 0 1 else .junk)), (19, (if b 2 then .b x1.tombstone else .junk)), (20, (if b 3 then .b (!x1.tombstone) else .junk))] [(3, some (.box [.i a1])), (4, (if b 4 then some (.box [.i x1.timestamp, .b x1.tombstone, .d (.sl (x1.row.map cS53))]) else some (.box [.i 0, .b false, .d (.lit (.slice none 0 0))]))), (5, (if b 5 then some (.box [.b (!x1.tombstone)]) else some (.box [.b false]))), (7, some (.box [.i x1.timestamp, .b x1.tombstone, .d (.sl (x1.row.map cS53))])), (10, some (.box [.d (.sl (a0.versions.map cS67))]))]) (mk 22 [3, 4, 5, 10] [(4, .ptr 4 0 0), (5, .ptr 5 0 0)] [(3, some (.box [.i a1])), (4, some (.box [.i x1.timestamp, .b x1.tombstone, .d (.sl (x1.row.map cS53))])), (5, some (.box [.b (!x1.tombstone)])), (10, some (.box [.d (.sl (a0.versions.map cS67))]))]) (by kernel_rfl) (by kernel_rfl) Sub.tt (Steps.cons ?_ (Steps.cons ?_ (Steps.cons ?_ (Steps.cons ?_ (Steps.cons ?_ (Steps.cons ?_ (Steps.nil))))))) ?_ ?_
   ·intro b h0 ha hd
    have f4 : b 4 = false := hd 4 (by decide)
    have f5 : b 5 = false := hd 5 (by decide)
    refine Chain.runK [] 1 fun K hK => ?_; simp [h0, f4, f5]; refine hK _ _ ?_; clear hK K
    exact Chain.nil (Sub.table (by simp) (by simp [f4, f5]))
   ·intro b h0 ha hd
    have f2 : b 2 = false := hd 2 (by decide)
    have f3 : b 3 = false := hd 3 (by decide)
    have f5 : b 5 = false := hd 5 (by decide)
    refine Chain.runK [] 1 fun K hK => ?_; simp [h0, f2, f3, f5]; refine hK _ _ ?_; clear hK K
    exact Chain.nil (Sub.table (by simp [f2, f3]) (by simp [f5]))
   ·intro b h0 ha hd
    have t1 : b 1 = true := ha 1 (by decide)
    have f3 : b 3 = false := hd 3 (by decide)
    have f5 : b 5 = false := hd 5 (by decide)
    refine Chain.runK [] 1 fun K hK => ?_; simp [h0, t1, f3, f5]; refine hK _ _ ?_; clear hK K
    exact Chain.nil (Sub.table (by simp [t1, f3]) (by simp [f5]))
   ·intro b h0 ha hd
    have t1 : b 1 = true := ha 1 (by decide)
    have t2 : b 2 = true := ha 2 (by decide)
    have f5 : b 5 = false := hd 5 (by decide)
    refine Chain.runK [] 1 fun K hK => ?_; simp [h0, t1, t2, f5]; refine hK _ _ ?_; clear hK K
    exact Chain.nil (Sub.table (by simp [t1, t2]) (by simp [f5]))
   ·intro b h0 ha hd
    have t0 : b 0 = true := ha 0 (by decide)
    have f5 : b 5 = false := hd 5 (by decide)
    refine Chain.runK [] 1 fun K hK => ?_; simp [h0, t0, f5]; refine hK _ _ ?_; clear hK K
    exact Chain.nil (Sub.table (by simp [t0]) (by simp [f5]))
   ·intro b h0 ha hd
    have t0 : b 0 = true := ha 0 (by decide)
    have t1 : b 1 = true := ha 1 (by decide)
    have t2 : b 2 = true := ha 2 (by decide)
    have t3 : b 3 = true := ha 3 (by decide)
    have t4 : b 4 = true := ha 4 (by decide)
    refine Chain.runK [] 1 fun K hK => ?_; simp [h0, t0, t1, t2, t3, t4]; refine hK _ _ ?_; clear hK K
    exact Chain.nil (Sub.table (by simp [t0, t1, t2, t3]) (by simp [t4]))
   ·intro b hb
    have t0 := hb 0 (by decide)
    have t1 := hb 1 (by decide)
    have t2 := hb 2 (by decide)
    have t3 := hb 3 (by decide)
    have t4 := hb 4 (by decide)
    have t5 := hb 5 (by decide)
    exact Sub.table (by simp [t0, t1, t2, t3]) (by simp [t4, t5])
   ·skip
    refine AW.ret ?_
    cases h
    refine blockQ.ret ?_
    refine ⟨by simp [jumpOf], [(3, some (.box [.d (.lit (.int .i64 a1))])), (4, some (.box [.d (.lit (.int .i64 x1.timestamp)), .d (.lit (.bool x1.tombstone)), .d (.sl (x1.row.map cS53))])), (5, some (.box [.d (.lit (.bool (!x1.tombstone)))])), (10, some (.box [.d (.sl (a0.versions.map cS67))]))], Sub.table (by simp) (by simp), ?_⟩
    rintro rfl
    refine blockQ.ret ?_
    refine thenQ_pass (by simp) ?_
    exact FinC.ret (by simp) (by simp)
  ·have c4_ : decide (x1.timestamp ≤ a1) = false := decide_eq_false c4
   refine AW.condF (b := decide (x1.timestamp ≤ a1)) rfl c4_ ?_
   refine AW.sub (Sub.bool 16 (b := decide (x1.timestamp ≤ a1)) rfl c4_) ?_
   refine AW.sub (S' := mk 22 [3, 4, 5, 10] [(4, .ptr 4 0 0), (5, .ptr 5 0 0), (7, .ptr 7 0 0), (16, .b false)] [(3, some (.box [.i a1])), (4, some (.box [.i 0, .b false, .d (.lit (.slice none 0 0))])), (5, some (.box [.b false])), (7, some (.box [.i x1.timestamp, .b x1.tombstone, .d (.sl (x1.row.map cS53))])), (10, some (.box [.d (.sl (a0.versions.map cS67))]))]) (by simp; exact Sub.table (by simp) (by simp)) ?_
   refine AW.skip ?_
   cases h
   refine blockQ.normal ?_
   exact ⟨rfl, Sub.tt⟩
 ·rintro ⟨⟩ h
  try dsimp only at h ⊢
  refine blockQ.normal ?_
  refine thenQ_normal ?_
  refine AW.seqR ?_
  refine Chain.runK [] 3 fun K hK => ?_; simp; refine hK _ _ ?_; clear hK K
  refine Chain.sub (S' := mk 22 [] [(4, .ptr 4 0 0), (5, .ptr 5 0 0)] [(4, some (.box [.i 0, .b false, .d (.lit (.slice none 0 0))])), (5, some (.box [.b false]))]) Sub.tt ?_
  refine Chain.nil ?_
  refine AW.sub (Sub.wkBox 4 rfl) ?_
  refine AW.sub (S' := mk 22 [] [(4, .ptr 4 0 0), (5, .ptr 5 0 0)] [(4, some (.box [.i 0, .b false, .d (.sl (([] : List S53).map cS53))])), (5, some (.box [.b false]))]) (by simp; exact Sub.table (by simp) (by simp)) ?_
  refine AW.ret ?_
  cases h
  exact FinC.ret (by simp) (by simp)

end Go.Proofs.Ytifcmomjjkbboac
