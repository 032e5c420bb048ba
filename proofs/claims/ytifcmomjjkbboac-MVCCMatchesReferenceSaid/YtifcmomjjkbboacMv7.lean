/- Functions of the program as functional programs; the code computes them. -/
import Derived.Test.YtifcmomjjkbboacMv6
namespace Go.Proofs.Ytifcmomjjkbboac
open Go.Ab Go.Rp
attribute [-simp] List.all_eq_true Array.all_toList Array.all_eq_true

/-- (*stemma/mvcc.Store).Scan -/
def d18 (N : Nat) (a0 : S63) (a1 : Int) : Option ((List S79) × Int) :=
 if a1 < a0.horizon then (
  some (([] : List S79), 21)
 ) else
 Option.bind (α := List S79) (
  iterN (σ := ((List S79) × Int)) (ρ := List S79) (fun ((l10, v11) : ((List S79) × Int)) =>
   if v11 < (a0.chains.length : Int) then (
    (idx a0.chains v11).bind fun x36 =>
    (d28 N x36 a1).bind fun r38 =>
    if r38.2 = true then (
     (d24 N r38.1.row).bind fun r40 =>
     letv ([(S79.mk x36.key r40)] : List S79) fun l41 =>
     (appL 40 l10 l41).bind fun _l42 =>
     (chkI (v11 + 1)).bind fun v43 =>
     some (.inl ((l10 ++ l41), v43))
    ) else
    (chkI (v11 + 1)).bind fun v44 =>
    some (.inl (l10, v44))
   ) else
   some (.inr l10)
  ) N (([] : List S79), 0)
 ) fun (l34 : List S79) =>
 some (l34, 0)
set_option maxRecDepth 100000 in
set_option maxHeartbeats 4000000 in
theorem p18 (N : Nat) (a0 : S63) (a1 : Int) (r : ((List S79) × Int)) (h : d18 N a0 a1 = some r) : FunF Try.prog 18 [.d (.pim [.sl (a0.chains.map cS72), .lit (.int .i64 a0.horizon)]), .d (.lit (.int .i64 a1))] (.tup [.d (.sl (r.1.map cS79)), .d (.lit (.int .i64 r.2))]) := by
 unfold d18 at h
 refine FunF.enter 44 [(0, .d (.pim [.sl (a0.chains.map cS72), .lit (.int .i64 a0.horizon)])), (1, .i a1)] (by simp) Try.func18 rfl (of_decide_eq_true rfl) rfl rfl ?_
 refine AW.seqR ?_
 refine Chain.runK [] 2 fun K hK => ?_; simp; refine hK _ _ ?_; clear hK K
 refine Chain.sub (S' := mk 44 [] [(0, .d (.pim [.sl (a0.chains.map cS72), .lit (.int .i64 a0.horizon)])), (1, .i a1)] []) Sub.tt ?_
 refine Chain.nil ?_
 refine AW.seq ?_
 refine AW.seqR ?_
 refine Chain.runK [] 6 fun K hK => ?_; simp; refine hK _ _ ?_; clear hK K
 refine Chain.sub (S' := mk 44 [] [(0, .d (.pim [.sl (a0.chains.map cS72), .lit (.int .i64 a0.horizon)])), (1, .i a1), (16, .b (decide (a1 < a0.horizon)))] []) Sub.tt ?_
 refine Chain.nil ?_
 replace h := isome h; rcases h with ⟨c1, h⟩ | ⟨c1, h⟩
 ·have c1_ : decide (a1 < a0.horizon) = true := decide_eq_true c1
  refine AW.condT (b := decide (a1 < a0.horizon)) rfl c1_ ?_
  refine AW.sub (Sub.bool 16 (b := decide (a1 < a0.horizon)) rfl c1_) ?_
  refine AW.sub (S' := mk 44 [] [(0, .d (.pim [.sl (a0.chains.map cS72), .lit (.int .i64 a0.horizon)])), (1, .i a1), (16, .b true)] []) (by simp; exact Sub.table (by simp) (by simp)) ?_
  refine AW.seqR ?_
  refine Chain.runK [] 2 fun K hK => ?_; simp; refine hK _ _ ?_; clear hK K
  refine Chain.sub (S' := mk 44 [] [(4, .d (.lit (.slice none 0 0))), (5, .i 21)] []) Sub.tt ?_
  refine Chain.nil ?_
  refine AW.sub (Sub.nilOwnN (t := 4) (id := 904) (T := 79) (n := 2) [none, some (53, 3)] rfl rfl (by decide) rfl) ?_
  refine AW.sub (S' := mk 44 [] [(4, .ref 904 0 (([] : List S79).length)), (5, .i 21)] [(904, some (.nest 79 2 [none, some (53, 3)] (([] : List S79).map cS79) []))]) (by simp; exact Sub.table (by simp) (by simp)) ?_
  refine AW.ret ?_
  obtain rfl := Option.some.inj h
  refine thenQ_pass (by simp) ?_
  exact FinV.ret (.tup [.ref 904 0 (([] : List S79).length), .d (.lit (.int .i64 21))]) 904 (k := (.nest 79 2 [none, some (53, 3)] (([] : List S79).map cS79) [])) (by simp) (by simp) (by simp) (by simp) (flatN_nest (fun a => by simp [flatSh, D.flat, cS53, cS79]) _) (by simp [viewR, only1]) (by simp)
 ·have c1_ : decide (a1 < a0.horizon) = false := decide_eq_false c1
  refine AW.condF (b := decide (a1 < a0.horizon)) rfl c1_ ?_
  refine AW.sub (Sub.bool 16 (b := decide (a1 < a0.horizon)) rfl c1_) ?_
  refine AW.sub (S' := mk 44 [] [(0, .d (.pim [.sl (a0.chains.map cS72), .lit (.int .i64 a0.horizon)])), (1, .i a1), (16, .b false)] []) (by simp; exact Sub.table (by simp) (by simp)) ?_
  refine AW.skip ?_
  refine thenQ_normal ?_
  refine AW.seqR ?_
  refine Chain.runK [] 1 fun K hK => ?_; simp; refine hK _ _ ?_; clear hK K
  refine Chain.sub (S' := mk 44 [] [(0, .d (.pim [.sl (a0.chains.map cS72), .lit (.int .i64 a0.horizon)])), (1, .i a1), (6, .d (.lit (.slice none 0 0)))] []) Sub.tt ?_
  refine Chain.nil ?_
  refine AW.seq ?_
  refine AW.seqR ?_
  refine Chain.runK [] 6 fun K hK => ?_; simp; refine hK _ _ ?_; clear hK K
  refine Chain.sub (S' := mk 44 [] [(1, .i a1), (6, .d (.lit (.slice none 0 0))), (20, .d (.sl (a0.chains.map cS72))), (21, .i (a0.chains.length : Int)), (22, .i 0)] []) Sub.tt ?_
  refine Chain.nil ?_
  refine AW.lastN (fun (l34 : List S79) => mk 44 [] [(6, .ref 41 0 l34.length)] [(41, some (.nest 79 2 [none, some (53, 3)] (l34.map cS79) []))]) h ?_ ?_ <;> clear h
  ·intro o h
   refine AW.block ?_
   refine AW.iter (fun ((l10, v11) : ((List S79) × Int)) => mk 44 [] [(1, .i a1), (6, .ref 41 0 l10.length), (20, .d (.sl (a0.chains.map cS72))), (21, .i (a0.chains.length : Int)), (22, .i v11)] [(41, some (.nest 79 2 [none, some (53, 3)] (l10.map cS79) []))]) h (Sub.trans (Sub.nilOwnN (t := 6) (id := 41) (T := 79) (n := 2) [none, some (53, 3)] rfl rfl (by decide) rfl) (by simp; exact Sub.table (by simp) (by simp))) ?_
   clear h
   rintro ⟨l10, v11⟩ x h
   dsimp only at h ⊢
   refine AW.seqR ?_
   refine Chain.runK [] 1 fun K hK => ?_; simp; refine hK _ _ ?_; clear hK K
   refine Chain.sub (S' := mk 44 [] [(1, .i a1), (6, .ref 41 0 l10.length), (20, .d (.sl (a0.chains.map cS72))), (21, .i (a0.chains.length : Int)), (22, .i v11), (23, .b (decide (v11 < (a0.chains.length : Int))))] [(41, some (.nest 79 2 [none, some (53, 3)] (l10.map cS79) []))]) Sub.tt ?_
   refine Chain.nil ?_
   refine AW.seq ?_
   replace h := isome h; rcases h with ⟨c35, h⟩ | ⟨c35, h⟩
   ·have c35_ : decide (v11 < (a0.chains.length : Int)) = true := decide_eq_true c35
    refine AW.condT (b := decide (v11 < (a0.chains.length : Int))) rfl c35_ ?_
    refine AW.sub (Sub.bool 23 (b := decide (v11 < (a0.chains.length : Int))) rfl c35_) ?_
    refine AW.sub (S' := mk 44 [] [(1, .i a1), (6, .ref 41 0 l10.length), (20, .d (.sl (a0.chains.map cS72))), (21, .i (a0.chains.length : Int)), (22, .i v11), (23, .b true)] [(41, some (.nest 79 2 [none, some (53, 3)] (l10.map cS79) []))]) (by simp; exact Sub.table (by simp) (by simp)) ?_
    refine AW.skip ?_
    refine thenQ_normal ?_
    refine AW.seq ?_
    refine AW.block ?_
    refine AW.seqR ?_
    replace h := bsome h; obtain ⟨x36, hx36, h⟩ := h
    obtain ⟨k37, hx36k, hx36, hx36a, hx36b⟩ := idx_some hx36
    refine Chain.runK [] 4 fun K hK => ?_; simp [hx36, hx36k, hx36a]; refine hK _ _ ?_; clear hK K
    refine Chain.sub (S' := mk 44 [] [(1, .i a1), (6, .ref 41 0 l10.length), (8, .ptr 8 0 0), (20, .d (.sl (a0.chains.map cS72))), (21, .i (a0.chains.length : Int)), (22, .i v11)] [(8, some (.box [.d (.lit (.string x36.key)), .d (.sl (x36.versions.map cS67))])), (41, some (.nest 79 2 [none, some (53, 3)] (l10.map cS79) []))]) Sub.tt ?_
    refine Chain.nil ?_
    refine AW.seqR ?_
    refine Chain.runK [] 2 fun K hK => ?_; simp; refine hK _ _ ?_; clear hK K
    refine Chain.sub (S' := mk 44 [] [(1, .i a1), (6, .ref 41 0 l10.length), (8, .ptr 8 0 0), (20, .d (.sl (a0.chains.map cS72))), (21, .i (a0.chains.length : Int)), (22, .i v11), (27, .agg [.d (.lit (.string x36.key)), .d (.sl (x36.versions.map cS67))]), (28, .i a1)] [(8, some (.box [.d (.lit (.string x36.key)), .d (.sl (x36.versions.map cS67))])), (41, some (.nest 79 2 [none, some (53, 3)] (l10.map cS79) []))]) Sub.tt ?_
    replace h := bsome h; obtain ⟨r38, hr38, h⟩ := h
    refine Chain.callC (d := 29) (p28 N x36 a1 r38 hr38) (by simp) rfl rfl (by simp <;> rfl) (by simp <;> rfl) ent28 (by simp) (.inl ⟨by simp, by simp⟩) ?_
    refine Chain.sub (S' := mk 44 [] [(1, .i a1), (6, .ref 41 0 l10.length), (8, .ptr 8 0 0), (20, .d (.sl (a0.chains.map cS72))), (21, .i (a0.chains.length : Int)), (22, .i v11), (27, .agg [.d (.lit (.string x36.key)), .d (.sl (x36.versions.map cS67))]), (28, .i a1), (29, .tup [.agg [.i r38.1.timestamp, .b r38.1.tombstone, .d (.sl (r38.1.row.map cS53))], .b r38.2])] [(8, some (.box [.d (.lit (.string x36.key)), .d (.sl (x36.versions.map cS67))])), (41, some (.nest 79 2 [none, some (53, 3)] (l10.map cS79) []))]) (by simp; exact Sub.table (by simp) (by simp)) ?_
    refine Chain.runK [] 6 fun K hK => ?_; simp; refine hK _ _ ?_; clear hK K
    refine Chain.sub (S' := mk 44 [] [(1, .i a1), (6, .ref 41 0 l10.length), (8, .ptr 8 0 0), (9, .ptr 9 0 0), (10, .b r38.2), (20, .d (.sl (a0.chains.map cS72))), (21, .i (a0.chains.length : Int)), (22, .i v11)] [(8, some (.box [.d (.lit (.string x36.key)), .d (.sl (x36.versions.map cS67))])), (9, some (.box [.i r38.1.timestamp, .b r38.1.tombstone, .d (.sl (r38.1.row.map cS53))])), (41, some (.nest 79 2 [none, some (53, 3)] (l10.map cS79) []))]) Sub.tt ?_
    refine Chain.nil ?_
    refine AW.seqR ?_
    refine Chain.runK [] 1 fun K hK => ?_; simp; refine hK _ _ ?_; clear hK K
    refine Chain.sub (S' := mk 44 [] [(1, .i a1), (6, .ref 41 0 l10.length), (8, .ptr 8 0 0), (9, .ptr 9 0 0), (20, .d (.sl (a0.chains.map cS72))), (21, .i (a0.chains.length : Int)), (22, .i v11), (32, .b r38.2)] [(8, some (.box [.d (.lit (.string x36.key)), .d (.sl (x36.versions.map cS67))])), (9, some (.box [.i r38.1.timestamp, .b r38.1.tombstone, .d (.sl (r38.1.row.map cS53))])), (41, some (.nest 79 2 [none, some (53, 3)] (l10.map cS79) []))]) Sub.tt ?_
    refine Chain.nil ?_
    replace h := isome h; rcases h with ⟨c39, h⟩ | ⟨c39, h⟩
    ·have c39_ : r38.2 = true := c39
     refine AW.condT (b := r38.2) rfl c39_ ?_
     refine AW.sub (Sub.bool 32 (b := r38.2) rfl c39_) ?_
     refine AW.sub (S' := mk 44 [] [(1, .i a1), (6, .ref 41 0 l10.length), (8, .ptr 8 0 0), (9, .ptr 9 0 0), (20, .d (.sl (a0.chains.map cS72))), (21, .i (a0.chains.length : Int)), (22, .i v11), (32, .b true)] [(8, some (.box [.d (.lit (.string x36.key)), .d (.sl (x36.versions.map cS67))])), (9, some (.box [.i r38.1.timestamp, .b r38.1.tombstone, .d (.sl (r38.1.row.map cS53))])), (41, some (.nest 79 2 [none, some (53, 3)] (l10.map cS79) []))]) (by simp; exact Sub.table (by simp) (by simp)) ?_
     replace h := bsome h; obtain ⟨r40, hr40, h⟩ := h
     replace h := lsome h; obtain ⟨l41, gl41, h⟩ := h
     have hl41 : [[.lit (.string x36.key), .sl (r40.map cS53)]] = l41.map cS79 := by rw [← gl41]; rfl
     have hl41n : l41.length = 1 := by rw [← gl41]; rfl
     clear gl41
     replace h := bsome h; obtain ⟨l42, hl42, h⟩ := h
     obtain ⟨hl42a, hl42⟩ := appL_some hl42
     subst hl42
     refine AW.lastAnyS [[], [], [1], [], [3], [3, 4], [1, 2, 3, 4, 5], [1, 2, 3, 4, 5, 6], [0, 1, 2, 3, 4, 5, 6, 7], [0, 1, 2, 3, 4, 5, 6, 7, 8]] (fun (b : Nat → Bool) => mk 44 [] [(1, .i a1), (6, (if b 9 then .ref 41 0 ((l10 ++ l41).length) else (if b 8 then .junk else .ref 41 0 l10.length))), (8, .ptr 8 0 0), (9, .ptr 9 0 0), (20, .d (.sl (a0.chains.map cS72))), (21, .i (a0.chains.length : Int)), (22, .i v11), (33, (if b 8 then .junk else (if b 0 then .ref 41 0 l10.length else .junk))), (34, (if b 1 then .ptr 8 0 0 else .junk)), (35, (if b 2 then .d (.lit (.string x36.key)) else .junk)), (36, (if b 3 then .ptr 9 0 2 else .junk)), (37, (if b 4 then .d (.sl (r38.1.row.map cS53)) else .junk)), (38, (if b 7 then .junk else (if b 5 then .ref 38 0 r40.length else .junk))), (39, (if b 7 then .junk else (if b 6 then .agg [.d (.lit (.string x36.key)), .ref 38 0 r40.length] else .junk))), (40, (if b 8 then .junk else (if b 7 then .ref 40 0 l41.length else .junk))), (41, (if b 8 then .ref 41 0 ((l10 ++ l41).length) else .junk))] [(8, some (.box [.d (.lit (.string x36.key)), .d (.sl (x36.versions.map cS67))])), (9, some (.box [.i r38.1.timestamp, .b r38.1.tombstone, .d (.sl (r38.1.row.map cS53))])), (38, (if b 7 then none else (if b 5 then R53 r40 else none))), (40, (if b 8 then none else (if b 7 then some (.nest 79 2 [none, some (53, 3)] (l41.map cS79) []) else none))), (41, (if b 8 then some (.nest 79 2 [none, some (53, 3)] ((l10 ++ l41).map cS79) []) else some (.nest 79 2 [none, some (53, 3)] (l10.map cS79) [])))]) (mk 44 [] [(1, .i a1), (6, .ref 41 0 ((l10 ++ l41).length)), (20, .d (.sl (a0.chains.map cS72))), (21, .i (a0.chains.length : Int)), (22, .i v11)] [(41, some (.nest 79 2 [none, some (53, 3)] ((l10 ++ l41).map cS79) []))]) (by kernel_rfl) (by kernel_rfl) Sub.tt (Steps.cons ?_ (Steps.cons ?_ (Steps.cons ?_ (Steps.cons ?_ (Steps.cons ?_ (Steps.cons ?_ (Steps.cons ?_ (Steps.cons ?_ (Steps.cons ?_ (Steps.cons ?_ (Steps.nil))))))))))) ?_ ?_
     ·intro b h0 ha hd
      have f8 : b 8 = false := hd 8 (by decide)
      have f9 : b 9 = false := hd 9 (by decide)
      refine Chain.runK [40] 1 fun K hK => ?_; simp [h0, f8, f9]; refine hK _ _ ?_; clear hK K
      exact Chain.nil (Sub.table (by simp [f8, f9]) (by simp [f8]))
     ·intro b h0 ha hd
      have f2 : b 2 = false := hd 2 (by decide)
      have f6 : b 6 = false := hd 6 (by decide)
      have f7 : b 7 = false := hd 7 (by decide)
      have f8 : b 8 = false := hd 8 (by decide)
      have f9 : b 9 = false := hd 9 (by decide)
      refine Chain.runK [40] 1 fun K hK => ?_; simp [h0, f2, f6, f7, f8, f9]; refine hK _ _ ?_; clear hK K
      exact Chain.nil (Sub.table (by simp [f2, f6, f7, f8, f9]) (by simp [f7, f8]))
     ·intro b h0 ha hd
      have t1 : b 1 = true := ha 1 (by decide)
      have f6 : b 6 = false := hd 6 (by decide)
      have f7 : b 7 = false := hd 7 (by decide)
      have f8 : b 8 = false := hd 8 (by decide)
      have f9 : b 9 = false := hd 9 (by decide)
      refine Chain.runK [40] 1 fun K hK => ?_; simp [h0, t1, f6, f7, f8, f9]; refine hK _ _ ?_; clear hK K
      exact Chain.nil (Sub.table (by simp [t1, f6, f7, f8, f9]) (by simp [f7, f8]))
     ·intro b h0 ha hd
      have f4 : b 4 = false := hd 4 (by decide)
      have f5 : b 5 = false := hd 5 (by decide)
      have f6 : b 6 = false := hd 6 (by decide)
      have f7 : b 7 = false := hd 7 (by decide)
      have f8 : b 8 = false := hd 8 (by decide)
      have f9 : b 9 = false := hd 9 (by decide)
      refine Chain.runK [40] 1 fun K hK => ?_; simp [h0, f4, f5, f6, f7, f8, f9]; refine hK _ _ ?_; clear hK K
      exact Chain.nil (Sub.table (by simp [f4, f5, f6, f7, f8, f9]) (by simp [f5, f7, f8]))
     ·intro b h0 ha hd
      have t3 : b 3 = true := ha 3 (by decide)
      have f5 : b 5 = false := hd 5 (by decide)
      have f6 : b 6 = false := hd 6 (by decide)
      have f7 : b 7 = false := hd 7 (by decide)
      have f8 : b 8 = false := hd 8 (by decide)
      have f9 : b 9 = false := hd 9 (by decide)
      refine Chain.runK [40] 1 fun K hK => ?_; simp [h0, t3, f5, f6, f7, f8, f9]; refine hK _ _ ?_; clear hK K
      exact Chain.nil (Sub.table (by simp [t3, f5, f6, f7, f8, f9]) (by simp [f5, f7, f8]))
     ·intro b h0 ha hd
      have t3 : b 3 = true := ha 3 (by decide)
      have t4 : b 4 = true := ha 4 (by decide)
      have f6 : b 6 = false := hd 6 (by decide)
      have f7 : b 7 = false := hd 7 (by decide)
      have f8 : b 8 = false := hd 8 (by decide)
      have f9 : b 9 = false := hd 9 (by decide)
      simp only [h0, t3, t4, f6, f7, f8, f9, if_true, if_false, Bool.false_eq_true]
      refine Chain.callO (d := 38) (p24 N r38.1.row r40 hr40) (by simp) rfl rfl (by simp <;> rfl) (by simp <;> rfl) ent24 (by simp) ⟨by simp, by simp⟩ ?_
      exact Chain.nil (by simp [t3, t4, f6, f7, f8, f9]; exact Sub.table (by simp) (by simp))
     ·intro b h0 ha hd
      have t1 : b 1 = true := ha 1 (by decide)
      have t2 : b 2 = true := ha 2 (by decide)
      have t3 : b 3 = true := ha 3 (by decide)
      have t4 : b 4 = true := ha 4 (by decide)
      have t5 : b 5 = true := ha 5 (by decide)
      have f7 : b 7 = false := hd 7 (by decide)
      have f8 : b 8 = false := hd 8 (by decide)
      have f9 : b 9 = false := hd 9 (by decide)
      refine Chain.runK [40] 1 fun K hK => ?_; simp [h0, t1, t2, t3, t4, t5, f7, f8, f9]; refine hK _ _ ?_; clear hK K
      exact Chain.nil (Sub.table (by simp [t1, t2, t3, t4, t5, f7, f8, f9]) (by simp [t5, f7, f8]))
     ·intro b h0 ha hd
      have t1 : b 1 = true := ha 1 (by decide)
      have t2 : b 2 = true := ha 2 (by decide)
      have t3 : b 3 = true := ha 3 (by decide)
      have t4 : b 4 = true := ha 4 (by decide)
      have t5 : b 5 = true := ha 5 (by decide)
      have t6 : b 6 = true := ha 6 (by decide)
      have f8 : b 8 = false := hd 8 (by decide)
      have f9 : b 9 = false := hd 9 (by decide)
      simp only [h0, t1, t2, t3, t4, t5, t6, f8, f9, if_true, if_false, Bool.false_eq_true]
      refine Chain.buildN (d := 40) (cs := [.d (.lit (.string x36.key)), .ref 38 0 r40.length]) (te := ⟨_, 2, 40, _⟩) [none, some (53, 3)] (by simp) rfl rfl ty54 rfl ty79 (by simp) rfl rfl rfl rfl (by decide) (by decide) rfl rfl rfl ?_
      refine Chain.sub (Sub.close 40 0 (e := [.lit (.string x36.key), .sl (r40.map cS53)]) (cs := [.d (.lit (.string x36.key)), .ref 38 0 r40.length]) (ks := [38]) rfl rfl (by simp) (by decide) rfl) ?_
      cases q0 : b 0 <;> exact Chain.nil (by simp [t1, t2, t3, t4, f8, f9, hl41, q0]; exact Sub.table (by simp [hl41n]) (by simp))
     ·intro b h0 ha hd
      have t0 : b 0 = true := ha 0 (by decide)
      have t1 : b 1 = true := ha 1 (by decide)
      have t2 : b 2 = true := ha 2 (by decide)
      have t3 : b 3 = true := ha 3 (by decide)
      have t4 : b 4 = true := ha 4 (by decide)
      have t5 : b 5 = true := ha 5 (by decide)
      have t6 : b 6 = true := ha 6 (by decide)
      have t7 : b 7 = true := ha 7 (by decide)
      have f9 : b 9 = false := hd 9 (by decide)
      simp only [h0, t0, t1, t2, t3, t4, t5, t6, t7, f9, if_true, if_false, Bool.false_eq_true]
      refine Chain.appN (id := 41) (k := 40) (sh := [none, some (53, 3)]) (es := l10.map cS79) (ys := l41.map cS79) (te := ⟨_, 2, 40, _⟩) (by simp) rfl rfl rfl rfl ty54 rfl ty79 (by simp) (by simp) rfl (by simp) (by simp) rfl (by decide) (by simp [hl41n]) (by decide) rfl (by rw [List.length_map, List.length_map]; exact hl42a) ?_
      exact Chain.nil (by simp [t1, t2, t3, t4, t7, f9]; exact Sub.table (by simp) (by simp))
     ·intro b h0 ha hd
      have t0 : b 0 = true := ha 0 (by decide)
      have t1 : b 1 = true := ha 1 (by decide)
      have t2 : b 2 = true := ha 2 (by decide)
      have t3 : b 3 = true := ha 3 (by decide)
      have t4 : b 4 = true := ha 4 (by decide)
      have t5 : b 5 = true := ha 5 (by decide)
      have t6 : b 6 = true := ha 6 (by decide)
      have t7 : b 7 = true := ha 7 (by decide)
      have t8 : b 8 = true := ha 8 (by decide)
      refine Chain.runK [40] 1 fun K hK => ?_; simp [h0, t1, t2, t3, t4, t7, t8]; refine hK _ _ ?_; clear hK K
      exact Chain.nil (Sub.table (by simp [t1, t2, t3, t4, t7, t8]) (by simp [t7, t8]))
     ·intro b hb
      have t0 := hb 0 (by decide)
      have t1 := hb 1 (by decide)
      have t2 := hb 2 (by decide)
      have t3 := hb 3 (by decide)
      have t4 := hb 4 (by decide)
      have t5 := hb 5 (by decide)
      have t6 := hb 6 (by decide)
      have t7 := hb 7 (by decide)
      have t8 := hb 8 (by decide)
      have t9 := hb 9 (by decide)
      exact Sub.table (by simp [t1, t2, t3, t4, t7, t8, t9]) (by simp [t7, t8])
     ·skip
      refine blockQ.normal ?_
      refine thenQ_normal ?_
      refine AW.region ?_
      replace h := bsome h; obtain ⟨v43, hv43, h⟩ := h
      have hv43 := chkI_some hv43
      refine Chain.runK [] 2 fun K hK => ?_; simp [hv43]; refine hK _ _ ?_; clear hK K
      refine Chain.sub (S' := mk 44 [] [(1, .i a1), (6, .ref 41 0 ((l10 ++ l41).length)), (20, .d (.sl (a0.chains.map cS72))), (21, .i (a0.chains.length : Int)), (22, .i v43)] [(41, some (.nest 79 2 [none, some (53, 3)] ((l10 ++ l41).map cS79) []))]) Sub.tt ?_
      refine Chain.nil ?_
      cases h
      refine PostI.next ?_
      exact Sub.tt
    ·have c39_ : r38.2 = false := Bool.eq_false_iff.2 c39
     refine AW.condF (b := r38.2) rfl c39_ ?_
     refine AW.sub (Sub.bool 32 (b := r38.2) rfl c39_) ?_
     refine AW.sub (S' := mk 44 [] [(1, .i a1), (6, .ref 41 0 l10.length), (8, .ptr 8 0 0), (9, .ptr 9 0 0), (20, .d (.sl (a0.chains.map cS72))), (21, .i (a0.chains.length : Int)), (22, .i v11), (32, .b false)] [(8, some (.box [.d (.lit (.string x36.key)), .d (.sl (x36.versions.map cS67))])), (9, some (.box [.i r38.1.timestamp, .b r38.1.tombstone, .d (.sl (r38.1.row.map cS53))])), (41, some (.nest 79 2 [none, some (53, 3)] (l10.map cS79) []))]) (by simp; exact Sub.table (by simp) (by simp)) ?_
     refine AW.skip ?_
     refine blockQ.normal ?_
     refine thenQ_normal ?_
     refine AW.region ?_
     replace h := bsome h; obtain ⟨v44, hv44, h⟩ := h
     have hv44 := chkI_some hv44
     refine Chain.runK [] 2 fun K hK => ?_; simp [hv44]; refine hK _ _ ?_; clear hK K
     refine Chain.sub (S' := mk 44 [] [(1, .i a1), (6, .ref 41 0 l10.length), (20, .d (.sl (a0.chains.map cS72))), (21, .i (a0.chains.length : Int)), (22, .i v44)] [(41, some (.nest 79 2 [none, some (53, 3)] (l10.map cS79) []))]) Sub.tt ?_
     refine Chain.nil ?_
     cases h
     refine PostI.next ?_
     exact Sub.tt
   ·have c35_ : decide (v11 < (a0.chains.length : Int)) = false := decide_eq_false c35
    refine AW.condF (b := decide (v11 < (a0.chains.length : Int))) rfl c35_ ?_
    refine AW.sub (Sub.bool 23 (b := decide (v11 < (a0.chains.length : Int))) rfl c35_) ?_
    refine AW.sub (S' := mk 44 [] [(1, .i a1), (6, .ref 41 0 l10.length), (20, .d (.sl (a0.chains.map cS72))), (21, .i (a0.chains.length : Int)), (22, .i v11), (23, .b false)] [(41, some (.nest 79 2 [none, some (53, 3)] (l10.map cS79) []))]) (by simp; exact Sub.table (by simp) (by simp)) ?_
    refine AW.exit ?_
    cases h
    refine thenQ_pass (by simp) ?_
    refine PostI.out (by simp) ?_
    rintro rfl
    refine blockQ.hit ?_
    refine PostN.next ?_
    exact Sub.tt
  ·rintro l34 h
   refine thenQ_normal ?_
   refine AW.seqR ?_
   refine Chain.runK [] 3 fun K hK => ?_; simp; refine hK _ _ ?_; clear hK K
   refine Chain.sub (S' := mk 44 [] [(4, .ref 41 0 l34.length), (5, .i 0)] [(41, some (.nest 79 2 [none, some (53, 3)] (l34.map cS79) []))]) Sub.tt ?_
   refine Chain.nil ?_
   refine AW.ret ?_
   obtain rfl := Option.some.inj h
   exact FinV.ret (.tup [.ref 41 0 l34.length, .d (.lit (.int .i64 0))]) 41 (k := (.nest 79 2 [none, some (53, 3)] (l34.map cS79) [])) (by simp) (by simp) (by simp) (by simp) (flatN_nest (fun a => by simp [flatSh, D.flat, cS53, cS79]) _) (by simp [viewR, only1]) (by simp)

def d37 (_ : Nat) (a0 : List ByteArray) : Option (List ByteArray) := sortS a0
theorem l37 (N : Nat) (a0 r : List ByteArray) (h : d37 N a0 = some r) : r.length = a0.length := sortS_length h
theorem p37 (N : Nat) (a0 : List ByteArray) (r : List ByteArray) (h : d37 N a0 = some r) : FunM Try.prog 37 [.ref 1000 0 a0.length] [(1000, R9 a0)] [1000] (.tup []) [(1000, .arr 9 1 (r.map cS))] :=
 sortS_funM Try.sort_Strings_none Try.sort_Strings a0 r h

/-- (*stemma/stemref5.Store).Keys -/
def d29 (N : Nat) (a0 : S36) : Option (S36 × (List ByteArray)) :=
 Option.bind (α := List ByteArray) (
  iterN (σ := ((List (ByteArray × Bool)) × (List ByteArray) × Int)) (ρ := List ByteArray) (fun ((m8, l9, v10) : ((List (ByteArray × Bool)) × (List ByteArray) × Int)) =>
   if v10 < (a0.Versions.length : Int) then (
    (idx a0.Versions v10).bind fun x32 =>
    letv ((mget m8 x32.Key).getD false) fun v34 =>
    if (!v34) = true then (
     (appL 16 l9 [x32.Key]).bind fun _l36 =>
     (chkI (v10 + 1)).bind fun v37 =>
     some (.inl ((mput m8 x32.Key true), (l9 ++ [x32.Key]), v37))
    ) else
    (chkI (v10 + 1)).bind fun v38 =>
    some (.inl ((mput m8 x32.Key true), l9, v38))
   ) else
   some (.inr l9)
  ) N (([] : List (ByteArray × Bool)), ([] : List ByteArray), 0)
 ) fun (l30 : List ByteArray) =>
 (d37 N l30).bind fun r39 =>
 some (a0, r39)
set_option maxRecDepth 100000 in
set_option maxHeartbeats 4000000 in
theorem p29 (N : Nat) (a0 : S36) (r : (S36 × (List ByteArray))) (h : d29 N a0 = some r) : FunM Try.prog 29 [.ptr 1000 0 0] [(1000, some (.box [.ref 25000 0 a0.Versions.length, .i a0.Horizon])), (25000, R43 a0.Versions)] [1000] (.d (.sl (r.2.map cS))) ([(1000, (.box [.ref 25000 0 r.1.Versions.length, .i r.1.Horizon])), (25000, (.arr 43 4 (r.1.Versions.map cS43)))]) := by
 unfold d29 at h
 refine FunM.enter 34 [(0, .ptr 1000 0 0)] Try.func29 rfl (of_decide_eq_true rfl) rfl rfl ?_
 refine AW.seqR ?_
 refine Chain.runK [] 1 fun K hK => ?_; simp; refine hK _ _ ?_; clear hK K
 refine Chain.sub (S' := mk 34 [1000] [(0, .ptr 1000 0 0)] [(1000, some (.box [.ref 25000 0 a0.Versions.length, .i a0.Horizon])), (25000, R43 a0.Versions)]) Sub.tt ?_
 refine Chain.nil ?_
 refine AW.seqR ?_
 refine Chain.mmake .string (by simp) rfl rfl (by simp) ?_
 refine Chain.sub (S' := mk 34 [1000] [(0, .ptr 1000 0 0), (7, .mref 7)] [(7, some (.mp .string (encM MKey.sk vB ([] : List (ByteArray × Bool))))), (1000, some (.box [.ref 25000 0 a0.Versions.length, .i a0.Horizon])), (25000, R43 a0.Versions)]) (by simp; exact Sub.table (by simp) (by simp [encM_nil])) ?_
 refine Chain.runK [] 1 fun K hK => ?_; simp; refine hK _ _ ?_; clear hK K
 refine Chain.sub (S' := mk 34 [1000] [(0, .ptr 1000 0 0), (3, .mref 7)] [(7, some (.mp .string (encM MKey.sk vB ([] : List (ByteArray × Bool))))), (1000, some (.box [.ref 25000 0 a0.Versions.length, .i a0.Horizon])), (25000, R43 a0.Versions)]) Sub.tt ?_
 refine Chain.nil ?_
 refine AW.seqR ?_
 refine Chain.runK [] 1 fun K hK => ?_; simp; refine hK _ _ ?_; clear hK K
 refine Chain.sub (S' := mk 34 [1000] [(0, .ptr 1000 0 0), (3, .mref 7), (4, .d (.lit (.slice none 0 0)))] [(7, some (.mp .string (encM MKey.sk vB ([] : List (ByteArray × Bool))))), (1000, some (.box [.ref 25000 0 a0.Versions.length, .i a0.Horizon])), (25000, R43 a0.Versions)]) Sub.tt ?_
 refine Chain.nil ?_
 refine AW.seq ?_
 refine AW.seqR ?_
 refine Chain.runK [] 6 fun K hK => ?_; simp; refine hK _ _ ?_; clear hK K
 refine Chain.sub (S' := mk 34 [1000] [(3, .mref 7), (4, .d (.lit (.slice none 0 0))), (11, .ref 25000 0 a0.Versions.length), (12, .i (a0.Versions.length : Int)), (13, .i 0)] [(7, some (.mp .string (encM MKey.sk vB ([] : List (ByteArray × Bool))))), (1000, some (.box [.ref 25000 0 a0.Versions.length, .i a0.Horizon])), (25000, R43 a0.Versions)]) Sub.tt ?_
 refine Chain.nil ?_
 refine AW.lastN (fun (l30 : List ByteArray) => mk 34 [1000] [(4, .ref 26 0 l30.length)] [(26, R9 l30), (1000, some (.box [.ref 25000 0 a0.Versions.length, .i a0.Horizon])), (25000, R43 a0.Versions)]) h ?_ ?_ <;> clear h
 ·intro o h
  refine AW.block ?_
  refine AW.iter (fun ((m8, l9, v10) : ((List (ByteArray × Bool)) × (List ByteArray) × Int)) => mk 34 [1000] [(3, .mref 7), (4, .ref 26 0 l9.length), (11, .ref 25000 0 a0.Versions.length), (12, .i (a0.Versions.length : Int)), (13, .i v10)] [(7, some (.mp .string (encM MKey.sk vB m8))), (26, R9 l9), (1000, some (.box [.ref 25000 0 a0.Versions.length, .i a0.Horizon])), (25000, R43 a0.Versions)]) h (Sub.trans (Sub.nilOwn (t := 4) (id := 26) (T := 9) (n := 1) rfl rfl (by decide)) (by simp; exact Sub.table (by simp) (by simp))) ?_
  clear h
  rintro ⟨m8, l9, v10⟩ x h
  dsimp only at h ⊢
  refine AW.seqR ?_
  refine Chain.runK [] 1 fun K hK => ?_; simp; refine hK _ _ ?_; clear hK K
  refine Chain.sub (S' := mk 34 [1000] [(3, .mref 7), (4, .ref 26 0 l9.length), (11, .ref 25000 0 a0.Versions.length), (12, .i (a0.Versions.length : Int)), (13, .i v10), (14, .b (decide (v10 < (a0.Versions.length : Int))))] [(7, some (.mp .string (encM MKey.sk vB m8))), (26, R9 l9), (1000, some (.box [.ref 25000 0 a0.Versions.length, .i a0.Horizon])), (25000, R43 a0.Versions)]) Sub.tt ?_
  refine Chain.nil ?_
  refine AW.seq ?_
  replace h := isome h; rcases h with ⟨c31, h⟩ | ⟨c31, h⟩
  ·have c31_ : decide (v10 < (a0.Versions.length : Int)) = true := decide_eq_true c31
   refine AW.condT (b := decide (v10 < (a0.Versions.length : Int))) rfl c31_ ?_
   refine AW.sub (Sub.bool 14 (b := decide (v10 < (a0.Versions.length : Int))) rfl c31_) ?_
   refine AW.sub (S' := mk 34 [1000] [(3, .mref 7), (4, .ref 26 0 l9.length), (11, .ref 25000 0 a0.Versions.length), (12, .i (a0.Versions.length : Int)), (13, .i v10), (14, .b true)] [(7, some (.mp .string (encM MKey.sk vB m8))), (26, R9 l9), (1000, some (.box [.ref 25000 0 a0.Versions.length, .i a0.Horizon])), (25000, R43 a0.Versions)]) (by simp; exact Sub.table (by simp) (by simp)) ?_
   refine AW.skip ?_
   refine thenQ_normal ?_
   refine AW.seq ?_
   refine AW.block ?_
   refine AW.seqR ?_
   replace h := bsome h; obtain ⟨x32, hx32, h⟩ := h
   obtain ⟨k33, hx32k, hx32, hx32a, hx32b⟩ := idx_some hx32
   refine Chain.runK [] 4 fun K hK => ?_; simp [hx32, hx32k, hx32a, hx32b]; refine hK _ _ ?_; clear hK K
   refine Chain.sub (S' := mk 34 [1000] [(3, .mref 7), (4, .ref 26 0 l9.length), (6, .ptr 6 0 0), (11, .ref 25000 0 a0.Versions.length), (12, .i (a0.Versions.length : Int)), (13, .i v10)] [(6, some (.box [.d (.lit (.string x32.Key)), .i x32.Timestamp, .b x32.Tombstone, .d (.sl (x32.Row.map cS53))])), (7, some (.mp .string (encM MKey.sk vB m8))), (26, R9 l9), (1000, some (.box [.ref 25000 0 a0.Versions.length, .i a0.Horizon])), (25000, R43 a0.Versions)]) Sub.tt ?_
   refine Chain.nil ?_
   refine AW.seq ?_
   refine AW.seqR ?_
   refine Chain.runK [] 3 fun K hK => ?_; simp; refine hK _ _ ?_; clear hK K
   refine Chain.sub (S' := mk 34 [1000] [(3, .mref 7), (4, .ref 26 0 l9.length), (6, .ptr 6 0 0), (11, .ref 25000 0 a0.Versions.length), (12, .i (a0.Versions.length : Int)), (13, .i v10), (17, .mref 7), (19, .d (.lit (.string x32.Key)))] [(6, some (.box [.d (.lit (.string x32.Key)), .i x32.Timestamp, .b x32.Tombstone, .d (.sl (x32.Row.map cS53))])), (7, some (.mp .string (encM MKey.sk vB m8))), (26, R9 l9), (1000, some (.box [.ref 25000 0 a0.Versions.length, .i a0.Horizon])), (25000, R43 a0.Versions)]) Sub.tt ?_
   replace h := lsome h; obtain ⟨v34, hv34, h⟩ := h
   refine Chain.lookE (vf := vB) sk_inj m8 x32.Key false (by simp) rfl ty90 rfl ty9 ty4 rfl rfl rfl rfl rfl rfl rfl ?_
   refine Chain.sub (S' := mk 34 [1000] [(3, .mref 7), (4, .ref 26 0 l9.length), (6, .ptr 6 0 0), (11, .ref 25000 0 a0.Versions.length), (12, .i (a0.Versions.length : Int)), (13, .i v10), (17, .mref 7), (19, .d (.lit (.string x32.Key))), (20, .b v34)] [(6, some (.box [.d (.lit (.string x32.Key)), .i x32.Timestamp, .b x32.Tombstone, .d (.sl (x32.Row.map cS53))])), (7, some (.mp .string (encM MKey.sk vB m8))), (26, R9 l9), (1000, some (.box [.ref 25000 0 a0.Versions.length, .i a0.Horizon])), (25000, R43 a0.Versions)]) (by simp [vB, hv34]; exact Sub.table (by simp) (by simp)) ?_
   refine Chain.runK [] 1 fun K hK => ?_; simp; refine hK _ _ ?_; clear hK K
   refine Chain.sub (S' := mk 34 [1000] [(3, .mref 7), (4, .ref 26 0 l9.length), (6, .ptr 6 0 0), (11, .ref 25000 0 a0.Versions.length), (12, .i (a0.Versions.length : Int)), (13, .i v10), (21, .b (!v34))] [(6, some (.box [.d (.lit (.string x32.Key)), .i x32.Timestamp, .b x32.Tombstone, .d (.sl (x32.Row.map cS53))])), (7, some (.mp .string (encM MKey.sk vB m8))), (26, R9 l9), (1000, some (.box [.ref 25000 0 a0.Versions.length, .i a0.Horizon])), (25000, R43 a0.Versions)]) Sub.tt ?_
   refine Chain.nil ?_
   replace h := isome h; rcases h with ⟨c35, h⟩ | ⟨c35, h⟩
   ·have c35_ : (!v34) = true := c35
    refine AW.condT (b := (!v34)) rfl c35_ ?_
    refine AW.sub (Sub.bool 21 (b := (!v34)) rfl c35_) ?_
    refine AW.sub (S' := mk 34 [1000] [(3, .mref 7), (4, .ref 26 0 l9.length), (6, .ptr 6 0 0), (11, .ref 25000 0 a0.Versions.length), (12, .i (a0.Versions.length : Int)), (13, .i v10), (21, .b true)] [(6, some (.box [.d (.lit (.string x32.Key)), .i x32.Timestamp, .b x32.Tombstone, .d (.sl (x32.Row.map cS53))])), (7, some (.mp .string (encM MKey.sk vB m8))), (26, R9 l9), (1000, some (.box [.ref 25000 0 a0.Versions.length, .i a0.Horizon])), (25000, R43 a0.Versions)]) (by simp; exact Sub.table (by simp) (by simp)) ?_
    refine AW.region ?_
    replace h := bsome h; obtain ⟨l36, hl36, h⟩ := h
    obtain ⟨hl36a, hl36⟩ := appL_some hl36
    subst hl36
    try simp only [List.length_cons, List.length_nil, Nat.zero_add] at hl36a
    refine Chain.runK [25] 6 fun K hK => ?_; simp [hl36a]; refine hK _ _ ?_; clear hK K
    refine Chain.sub (S' := mk 34 [1000] [(3, .mref 7), (4, .ref 26 0 ((l9 ++ [x32.Key]).length)), (6, .ptr 6 0 0), (11, .ref 25000 0 a0.Versions.length), (12, .i (a0.Versions.length : Int)), (13, .i v10)] [(6, some (.box [.d (.lit (.string x32.Key)), .i x32.Timestamp, .b x32.Tombstone, .d (.sl (x32.Row.map cS53))])), (7, some (.mp .string (encM MKey.sk vB m8))), (26, R9 (l9 ++ [x32.Key])), (1000, some (.box [.ref 25000 0 a0.Versions.length, .i a0.Horizon])), (25000, R43 a0.Versions)]) Sub.tt ?_
    refine Chain.nil ?_
    refine thenQ_normal ?_
    refine AW.region ?_
    refine Chain.runK [] 3 fun K hK => ?_; simp; refine hK _ _ ?_; clear hK K
    refine Chain.sub (S' := mk 34 [1000] [(3, .mref 7), (4, .ref 26 0 ((l9 ++ [x32.Key]).length)), (11, .ref 25000 0 a0.Versions.length), (12, .i (a0.Versions.length : Int)), (13, .i v10), (27, .mref 7), (29, .d (.lit (.string x32.Key)))] [(7, some (.mp .string (encM MKey.sk vB m8))), (26, R9 (l9 ++ [x32.Key])), (1000, some (.box [.ref 25000 0 a0.Versions.length, .i a0.Horizon])), (25000, R43 a0.Versions)]) Sub.tt ?_
    refine Chain.msetE (vf := vB) sk_inj m8 x32.Key true (by simp) (.inl rfl) ty90 rfl ty9 rfl rfl rfl rfl rfl rfl rfl ?_
    refine Chain.sub (S' := mk 34 [1000] [(3, .mref 7), (4, .ref 26 0 ((l9 ++ [x32.Key]).length)), (11, .ref 25000 0 a0.Versions.length), (12, .i (a0.Versions.length : Int)), (13, .i v10), (27, .mref 7), (29, .d (.lit (.string x32.Key)))] [(7, some (.mp .string (encM MKey.sk vB (mput m8 x32.Key true)))), (26, R9 (l9 ++ [x32.Key])), (1000, some (.box [.ref 25000 0 a0.Versions.length, .i a0.Horizon])), (25000, R43 a0.Versions)]) (by simp; exact Sub.table (by simp) (by simp)) ?_
    refine Chain.nil ?_
    refine blockQ.normal ?_
    refine thenQ_normal ?_
    refine AW.region ?_
    replace h := bsome h; obtain ⟨v37, hv37, h⟩ := h
    have hv37 := chkI_some hv37
    refine Chain.runK [] 2 fun K hK => ?_; simp [hv37]; refine hK _ _ ?_; clear hK K
    refine Chain.sub (S' := mk 34 [1000] [(3, .mref 7), (4, .ref 26 0 ((l9 ++ [x32.Key]).length)), (11, .ref 25000 0 a0.Versions.length), (12, .i (a0.Versions.length : Int)), (13, .i v37)] [(7, some (.mp .string (encM MKey.sk vB (mput m8 x32.Key true)))), (26, R9 (l9 ++ [x32.Key])), (1000, some (.box [.ref 25000 0 a0.Versions.length, .i a0.Horizon])), (25000, R43 a0.Versions)]) Sub.tt ?_
    refine Chain.nil ?_
    cases h
    refine PostI.next ?_
    exact Sub.tt
   ·have c35_ : (!v34) = false := Bool.eq_false_iff.2 c35
    refine AW.condF (b := (!v34)) rfl c35_ ?_
    refine AW.sub (Sub.bool 21 (b := (!v34)) rfl c35_) ?_
    refine AW.sub (S' := mk 34 [1000] [(3, .mref 7), (4, .ref 26 0 l9.length), (6, .ptr 6 0 0), (11, .ref 25000 0 a0.Versions.length), (12, .i (a0.Versions.length : Int)), (13, .i v10), (21, .b false)] [(6, some (.box [.d (.lit (.string x32.Key)), .i x32.Timestamp, .b x32.Tombstone, .d (.sl (x32.Row.map cS53))])), (7, some (.mp .string (encM MKey.sk vB m8))), (26, R9 l9), (1000, some (.box [.ref 25000 0 a0.Versions.length, .i a0.Horizon])), (25000, R43 a0.Versions)]) (by simp; exact Sub.table (by simp) (by simp)) ?_
    refine AW.skip ?_
    refine thenQ_normal ?_
    refine AW.region ?_
    refine Chain.runK [] 3 fun K hK => ?_; simp; refine hK _ _ ?_; clear hK K
    refine Chain.sub (S' := mk 34 [1000] [(3, .mref 7), (4, .ref 26 0 l9.length), (11, .ref 25000 0 a0.Versions.length), (12, .i (a0.Versions.length : Int)), (13, .i v10), (27, .mref 7), (29, .d (.lit (.string x32.Key)))] [(7, some (.mp .string (encM MKey.sk vB m8))), (26, R9 l9), (1000, some (.box [.ref 25000 0 a0.Versions.length, .i a0.Horizon])), (25000, R43 a0.Versions)]) Sub.tt ?_
    refine Chain.msetE (vf := vB) sk_inj m8 x32.Key true (by simp) (.inl rfl) ty90 rfl ty9 rfl rfl rfl rfl rfl rfl rfl ?_
    refine Chain.sub (S' := mk 34 [1000] [(3, .mref 7), (4, .ref 26 0 l9.length), (11, .ref 25000 0 a0.Versions.length), (12, .i (a0.Versions.length : Int)), (13, .i v10), (27, .mref 7), (29, .d (.lit (.string x32.Key)))] [(7, some (.mp .string (encM MKey.sk vB (mput m8 x32.Key true)))), (26, R9 l9), (1000, some (.box [.ref 25000 0 a0.Versions.length, .i a0.Horizon])), (25000, R43 a0.Versions)]) (by simp; exact Sub.table (by simp) (by simp)) ?_
    refine Chain.nil ?_
    refine blockQ.normal ?_
    refine thenQ_normal ?_
    refine AW.region ?_
    replace h := bsome h; obtain ⟨v38, hv38, h⟩ := h
    have hv38 := chkI_some hv38
    refine Chain.runK [] 2 fun K hK => ?_; simp [hv38]; refine hK _ _ ?_; clear hK K
    refine Chain.sub (S' := mk 34 [1000] [(3, .mref 7), (4, .ref 26 0 l9.length), (11, .ref 25000 0 a0.Versions.length), (12, .i (a0.Versions.length : Int)), (13, .i v38)] [(7, some (.mp .string (encM MKey.sk vB (mput m8 x32.Key true)))), (26, R9 l9), (1000, some (.box [.ref 25000 0 a0.Versions.length, .i a0.Horizon])), (25000, R43 a0.Versions)]) Sub.tt ?_
    refine Chain.nil ?_
    cases h
    refine PostI.next ?_
    exact Sub.tt
  ·have c31_ : decide (v10 < (a0.Versions.length : Int)) = false := decide_eq_false c31
   refine AW.condF (b := decide (v10 < (a0.Versions.length : Int))) rfl c31_ ?_
   refine AW.sub (Sub.bool 14 (b := decide (v10 < (a0.Versions.length : Int))) rfl c31_) ?_
   refine AW.sub (S' := mk 34 [1000] [(3, .mref 7), (4, .ref 26 0 l9.length), (11, .ref 25000 0 a0.Versions.length), (12, .i (a0.Versions.length : Int)), (13, .i v10), (14, .b false)] [(7, some (.mp .string (encM MKey.sk vB m8))), (26, R9 l9), (1000, some (.box [.ref 25000 0 a0.Versions.length, .i a0.Horizon])), (25000, R43 a0.Versions)]) (by simp; exact Sub.table (by simp) (by simp)) ?_
   refine AW.exit ?_
   cases h
   refine thenQ_pass (by simp) ?_
   refine PostI.out (by simp) ?_
   rintro rfl
   refine blockQ.hit ?_
   refine PostN.next ?_
   exact Sub.tt
 ·rintro l30 h
  refine thenQ_normal ?_
  refine AW.seqR ?_
  refine Chain.runK [] 1 fun K hK => ?_; simp; refine hK _ _ ?_; clear hK K
  refine Chain.sub (S' := mk 34 [1000] [(4, .ref 26 0 l30.length), (31, .ref 26 0 l30.length)] [(26, R9 l30), (1000, some (.box [.ref 25000 0 a0.Versions.length, .i a0.Horizon])), (25000, R43 a0.Versions)]) Sub.tt ?_
  replace h := bsome h; obtain ⟨r39, hr39, h⟩ := h
  refine Chain.callF (p37 N l30 r39 hr39) [(26, 1000)] [26] [(1000, 26)] [(26, .arr 9 1 (r39.map cS))] (.tup []) (by simp) rfl (by simp <;> rfl) (by simp) (by simp) (by simp) (by simp) (by simp) ent37 (by simp) (by simp) (by simp) (by simp) (by simp) (by simp) ?_
  have hlr39 := l37 N l30 r39 hr39
  refine Chain.sub (S' := mk 34 [1000] [(4, .ref 26 0 r39.length), (31, .ref 26 0 r39.length), (32, .tup [])] [(26, R9 r39), (1000, some (.box [.ref 25000 0 a0.Versions.length, .i a0.Horizon])), (25000, R43 a0.Versions)]) (by simp [hlr39]; exact Sub.table (by simp) (by simp)) ?_
  refine Chain.nil ?_
  refine AW.seqR ?_
  refine Chain.runK [] 2 fun K hK => ?_; simp; refine hK _ _ ?_; clear hK K
  refine Chain.sub (S' := mk 34 [1000] [(2, .ref 26 0 r39.length)] [(26, R9 r39), (1000, some (.box [.ref 25000 0 a0.Versions.length, .i a0.Horizon])), (25000, R43 a0.Versions)]) Sub.tt ?_
  refine Chain.nil ?_
  refine AW.sub (Sub.freeze 26 rfl) ?_
  refine AW.sub (S' := mk 34 [1000] [(2, .d (.sl (r39.map cS)))] [(1000, some (.box [.ref 25000 0 a0.Versions.length, .i a0.Horizon])), (25000, R43 a0.Versions)]) (by simp; exact Sub.table (by simp) (by simp)) ?_
  refine AW.ret ?_
  cases h
  exact FinF.ret (by simp) (by simp)

/-- stemma/stemlaw5.visibleRecords -/
def d19 (N : Nat) (a0 : S36) (a1 : Int) : Option (S36 × (List S79)) :=
 (d29 N a0).bind fun r1 =>
 Option.bind (α := ((List S79) × (List S43) × Int)) (
  iterN (σ := ((List S43) × Int × (List S79) × Int)) (ρ := ((List S79) × (List S43) × Int)) (fun ((l9, v10, l11, v12) : ((List S43) × Int × (List S79) × Int)) =>
   if v12 < (r1.2.length : Int) then (
    (idx r1.2 v12).bind fun x37 =>
    (d16 N (S36.mk l9 v10) x37 a1).bind fun r39 =>
    if r39.2.2 = true then (
     (appL 40 l11 [(S79.mk x37 r39.2.1)]).bind fun _l41 =>
     (chkI (v12 + 1)).bind fun v42 =>
     some (.inl (r39.1.Versions, r39.1.Horizon, (l11 ++ [(S79.mk x37 r39.2.1)]), v42))
    ) else
    (chkI (v12 + 1)).bind fun v43 =>
    some (.inl (r39.1.Versions, r39.1.Horizon, l11, v43))
   ) else
   some (.inr (l11, l9, v10))
  ) N (r1.1.Versions, r1.1.Horizon, ([] : List S79), 0)
 ) fun ((l33, l34, v35) : ((List S79) × (List S43) × Int)) =>
 some ((S36.mk l34 v35), l33)
set_option maxRecDepth 100000 in
set_option maxHeartbeats 4000000 in
theorem p19 (N : Nat) (a0 : S36) (a1 : Int) (r : (S36 × (List S79))) (h : d19 N a0 a1 = some r) : FunM Try.prog 19 [.ptr 1000 0 0, .i a1] [(1000, some (.box [.ref 25000 0 a0.Versions.length, .i a0.Horizon])), (25000, R43 a0.Versions)] [1000] (.d (.sl (r.2.map cS79))) ([(1000, (.box [.ref 25000 0 r.1.Versions.length, .i r.1.Horizon])), (25000, (.arr 43 4 (r.1.Versions.map cS43)))]) := by
 unfold d19 at h
 refine FunM.enter 33 [(0, .ptr 1000 0 0), (1, .i a1)] Try.func19 rfl (of_decide_eq_true rfl) rfl rfl ?_
 refine AW.seqR ?_
 refine Chain.runK [] 1 fun K hK => ?_; simp; refine hK _ _ ?_; clear hK K
 refine Chain.sub (S' := mk 33 [1000] [(0, .ptr 1000 0 0), (1, .i a1)] [(1000, some (.box [.ref 25000 0 a0.Versions.length, .i a0.Horizon])), (25000, R43 a0.Versions)]) Sub.tt ?_
 refine Chain.nil ?_
 refine AW.seqR ?_
 refine Chain.runK [] 1 fun K hK => ?_; simp; refine hK _ _ ?_; clear hK K
 refine Chain.sub (S' := mk 33 [1000] [(0, .ptr 1000 0 0), (1, .i a1), (5, .d (.lit (.slice none 0 0)))] [(1000, some (.box [.ref 25000 0 a0.Versions.length, .i a0.Horizon])), (25000, R43 a0.Versions)]) Sub.tt ?_
 refine Chain.nil ?_
 refine AW.seq ?_
 refine AW.seqR ?_
 refine Chain.runK [] 1 fun K hK => ?_; simp; refine hK _ _ ?_; clear hK K
 refine Chain.sub (S' := mk 33 [1000] [(0, .ptr 1000 0 0), (1, .i a1), (5, .d (.lit (.slice none 0 0))), (10, .ptr 1000 0 0)] [(1000, some (.box [.ref 25000 0 a0.Versions.length, .i a0.Horizon])), (25000, R43 a0.Versions)]) Sub.tt ?_
 replace h := bsome h; obtain ⟨r1, hr1, h⟩ := h
 refine Chain.callF (p29 N a0 r1 hr1) [(1000, 1000), (25000, 25000)] [1000] [(1000, 1000), (25000, 25000)] [(1000, (.box [.ref 25000 0 r1.1.Versions.length, .d (.lit (.int .i64 r1.1.Horizon))])), (25000, (.arr 43 4 (r1.1.Versions.map cS43)))] (.d (.sl (r1.2.map cS))) (by simp) rfl (by simp <;> rfl) (by simp) (by simp) (by simp) (by simp) (by simp) ent29 (by simp) (by simp) (by simp) (by simp) (by simp) (by simp) ?_
 refine Chain.sub (S' := mk 33 [1000] [(0, .ptr 1000 0 0), (1, .i a1), (5, .d (.lit (.slice none 0 0))), (10, .ptr 1000 0 0), (11, .d (.sl (r1.2.map cS)))] [(1000, some (.box [.ref 25000 0 r1.1.Versions.length, .i r1.1.Horizon])), (25000, R43 r1.1.Versions)]) (by simp; exact Sub.table (by simp) (by simp)) ?_
 refine Chain.runK [] 2 fun K hK => ?_; simp; refine hK _ _ ?_; clear hK K
 refine Chain.sub (S' := mk 33 [1000] [(0, .ptr 1000 0 0), (1, .i a1), (5, .d (.lit (.slice none 0 0))), (11, .d (.sl (r1.2.map cS))), (12, .i (r1.2.length : Int)), (13, .i 0)] [(1000, some (.box [.ref 25000 0 r1.1.Versions.length, .i r1.1.Horizon])), (25000, R43 r1.1.Versions)]) Sub.tt ?_
 refine Chain.nil ?_
 refine AW.lastN (fun ((l33, l34, v35) : ((List S79) × (List S43) × Int)) => mk 33 [1000] [(5, .ref 30 0 l33.length)] [(30, R79 l33), (1000, some (.box [.ref 25000 0 l34.length, .i v35])), (25000, R43 l34)]) h ?_ ?_ <;> clear h
 ·intro o h
  refine AW.block ?_
  refine AW.iter (fun ((l9, v10, l11, v12) : ((List S43) × Int × (List S79) × Int)) => mk 33 [1000] [(0, .ptr 1000 0 0), (1, .i a1), (5, .ref 30 0 l11.length), (11, .d (.sl (r1.2.map cS))), (12, .i (r1.2.length : Int)), (13, .i v12)] [(30, R79 l11), (1000, some (.box [.ref 25000 0 l9.length, .i v10])), (25000, R43 l9)]) h (Sub.trans (Sub.nilOwn (t := 5) (id := 30) (T := 79) (n := 2) rfl rfl (by decide)) (by simp; exact Sub.table (by simp) (by simp))) ?_
  clear h
  rintro ⟨l9, v10, l11, v12⟩ x h
  dsimp only at h ⊢
  refine AW.seqR ?_
  refine Chain.runK [] 1 fun K hK => ?_; simp; refine hK _ _ ?_; clear hK K
  refine Chain.sub (S' := mk 33 [1000] [(0, .ptr 1000 0 0), (1, .i a1), (5, .ref 30 0 l11.length), (11, .d (.sl (r1.2.map cS))), (12, .i (r1.2.length : Int)), (13, .i v12), (14, .b (decide (v12 < (r1.2.length : Int))))] [(30, R79 l11), (1000, some (.box [.ref 25000 0 l9.length, .i v10])), (25000, R43 l9)]) Sub.tt ?_
  refine Chain.nil ?_
  refine AW.seq ?_
  replace h := isome h; rcases h with ⟨c36, h⟩ | ⟨c36, h⟩
  ·have c36_ : decide (v12 < (r1.2.length : Int)) = true := decide_eq_true c36
   refine AW.condT (b := decide (v12 < (r1.2.length : Int))) rfl c36_ ?_
   refine AW.sub (Sub.bool 14 (b := decide (v12 < (r1.2.length : Int))) rfl c36_) ?_
   refine AW.sub (S' := mk 33 [1000] [(0, .ptr 1000 0 0), (1, .i a1), (5, .ref 30 0 l11.length), (11, .d (.sl (r1.2.map cS))), (12, .i (r1.2.length : Int)), (13, .i v12), (14, .b true)] [(30, R79 l11), (1000, some (.box [.ref 25000 0 l9.length, .i v10])), (25000, R43 l9)]) (by simp; exact Sub.table (by simp) (by simp)) ?_
   refine AW.skip ?_
   refine thenQ_normal ?_
   refine AW.seq ?_
   refine AW.block ?_
   refine AW.seqR ?_
   replace h := bsome h; obtain ⟨x37, hx37, h⟩ := h
   obtain ⟨k38, hx37k, hx37, hx37a, hx37b⟩ := idx_some hx37
   refine Chain.runK [] 3 fun K hK => ?_; simp [hx37, hx37k, hx37a]; refine hK _ _ ?_; clear hK K
   refine Chain.sub (S' := mk 33 [1000] [(0, .ptr 1000 0 0), (1, .i a1), (5, .ref 30 0 l11.length), (7, .d (.lit (.string x37))), (11, .d (.sl (r1.2.map cS))), (12, .i (r1.2.length : Int)), (13, .i v12)] [(30, R79 l11), (1000, some (.box [.ref 25000 0 l9.length, .i v10])), (25000, R43 l9)]) Sub.tt ?_
   refine Chain.nil ?_
   refine AW.seqR ?_
   refine Chain.runK [] 3 fun K hK => ?_; simp; refine hK _ _ ?_; clear hK K
   refine Chain.sub (S' := mk 33 [1000] [(0, .ptr 1000 0 0), (1, .i a1), (5, .ref 30 0 l11.length), (7, .d (.lit (.string x37))), (11, .d (.sl (r1.2.map cS))), (12, .i (r1.2.length : Int)), (13, .i v12), (18, .ptr 1000 0 0), (19, .d (.lit (.string x37))), (20, .i a1)] [(30, R79 l11), (1000, some (.box [.ref 25000 0 l9.length, .i v10])), (25000, R43 l9)]) Sub.tt ?_
   replace h := bsome h; obtain ⟨r39, hr39, h⟩ := h
   refine Chain.callF (p16 N (S36.mk l9 v10) x37 a1 r39 hr39) [(1000, 1000), (25000, 25000)] [1000] [(1000, 1000), (25000, 25000)] [(1000, (.box [.ref 25000 0 r39.1.Versions.length, .i r39.1.Horizon])), (25000, (.arr 43 4 (r39.1.Versions.map cS43)))] (.tup [.d (.sl (r39.2.1.map cS53)), .b r39.2.2]) (by simp) rfl (by simp <;> rfl) (by simp) (by simp) (by simp) (by simp) (by simp) ent16 (by simp) (by simp) (by simp) (by simp) (by simp) (by simp) ?_
   refine Chain.sub (S' := mk 33 [1000] [(0, .ptr 1000 0 0), (1, .i a1), (5, .ref 30 0 l11.length), (7, .d (.lit (.string x37))), (11, .d (.sl (r1.2.map cS))), (12, .i (r1.2.length : Int)), (13, .i v12), (18, .ptr 1000 0 0), (19, .d (.lit (.string x37))), (20, .i a1), (21, .tup [.d (.sl (r39.2.1.map cS53)), .b r39.2.2])] [(30, R79 l11), (1000, some (.box [.ref 25000 0 r39.1.Versions.length, .i r39.1.Horizon])), (25000, R43 r39.1.Versions)]) (by simp; exact Sub.table (by simp) (by simp)) ?_
   refine Chain.runK [] 5 fun K hK => ?_; simp; refine hK _ _ ?_; clear hK K
   refine Chain.sub (S' := mk 33 [1000] [(0, .ptr 1000 0 0), (1, .i a1), (5, .ref 30 0 l11.length), (7, .d (.lit (.string x37))), (8, .d (.sl (r39.2.1.map cS53))), (9, .b r39.2.2), (11, .d (.sl (r1.2.map cS))), (12, .i (r1.2.length : Int)), (13, .i v12)] [(30, R79 l11), (1000, some (.box [.ref 25000 0 r39.1.Versions.length, .i r39.1.Horizon])), (25000, R43 r39.1.Versions)]) Sub.tt ?_
   refine Chain.nil ?_
   refine AW.seqR ?_
   refine Chain.runK [] 1 fun K hK => ?_; simp; refine hK _ _ ?_; clear hK K
   refine Chain.sub (S' := mk 33 [1000] [(0, .ptr 1000 0 0), (1, .i a1), (5, .ref 30 0 l11.length), (7, .d (.lit (.string x37))), (8, .d (.sl (r39.2.1.map cS53))), (11, .d (.sl (r1.2.map cS))), (12, .i (r1.2.length : Int)), (13, .i v12), (24, .b r39.2.2)] [(30, R79 l11), (1000, some (.box [.ref 25000 0 r39.1.Versions.length, .i r39.1.Horizon])), (25000, R43 r39.1.Versions)]) Sub.tt ?_
   refine Chain.nil ?_
   replace h := isome h; rcases h with ⟨c40, h⟩ | ⟨c40, h⟩
   ·have c40_ : r39.2.2 = true := c40
    refine AW.condT (b := r39.2.2) rfl c40_ ?_
    refine AW.sub (Sub.bool 24 (b := r39.2.2) rfl c40_) ?_
    refine AW.sub (S' := mk 33 [1000] [(0, .ptr 1000 0 0), (1, .i a1), (5, .ref 30 0 l11.length), (7, .d (.lit (.string x37))), (8, .d (.sl (r39.2.1.map cS53))), (11, .d (.sl (r1.2.map cS))), (12, .i (r1.2.length : Int)), (13, .i v12), (24, .b true)] [(30, R79 l11), (1000, some (.box [.ref 25000 0 r39.1.Versions.length, .i r39.1.Horizon])), (25000, R43 r39.1.Versions)]) (by simp; exact Sub.table (by simp) (by simp)) ?_
    refine AW.region ?_
    replace h := bsome h; obtain ⟨l41, hl41, h⟩ := h
    obtain ⟨hl41a, hl41⟩ := appL_some hl41
    subst hl41
    try simp only [List.length_cons, List.length_nil, Nat.zero_add] at hl41a
    refine Chain.runK [29] 7 fun K hK => ?_; simp [hl41a]; refine hK _ _ ?_; clear hK K
    refine Chain.sub (S' := mk 33 [1000] [(0, .ptr 1000 0 0), (1, .i a1), (5, .ref 30 0 ((l11 ++ [(S79.mk x37 r39.2.1)]).length)), (11, .d (.sl (r1.2.map cS))), (12, .i (r1.2.length : Int)), (13, .i v12)] [(30, R79 (l11 ++ [(S79.mk x37 r39.2.1)])), (1000, some (.box [.ref 25000 0 r39.1.Versions.length, .i r39.1.Horizon])), (25000, R43 r39.1.Versions)]) Sub.tt ?_
    refine Chain.nil ?_
    refine blockQ.normal ?_
    refine thenQ_normal ?_
    refine AW.region ?_
    replace h := bsome h; obtain ⟨v42, hv42, h⟩ := h
    have hv42 := chkI_some hv42
    refine Chain.runK [] 2 fun K hK => ?_; simp [hv42]; refine hK _ _ ?_; clear hK K
    refine Chain.sub (S' := mk 33 [1000] [(0, .ptr 1000 0 0), (1, .i a1), (5, .ref 30 0 ((l11 ++ [(S79.mk x37 r39.2.1)]).length)), (11, .d (.sl (r1.2.map cS))), (12, .i (r1.2.length : Int)), (13, .i v42)] [(30, R79 (l11 ++ [(S79.mk x37 r39.2.1)])), (1000, some (.box [.ref 25000 0 r39.1.Versions.length, .i r39.1.Horizon])), (25000, R43 r39.1.Versions)]) Sub.tt ?_
    refine Chain.nil ?_
    cases h
    refine PostI.next ?_
    exact Sub.tt
   ·have c40_ : r39.2.2 = false := Bool.eq_false_iff.2 c40
    refine AW.condF (b := r39.2.2) rfl c40_ ?_
    refine AW.sub (Sub.bool 24 (b := r39.2.2) rfl c40_) ?_
    refine AW.sub (S' := mk 33 [1000] [(0, .ptr 1000 0 0), (1, .i a1), (5, .ref 30 0 l11.length), (7, .d (.lit (.string x37))), (8, .d (.sl (r39.2.1.map cS53))), (11, .d (.sl (r1.2.map cS))), (12, .i (r1.2.length : Int)), (13, .i v12), (24, .b false)] [(30, R79 l11), (1000, some (.box [.ref 25000 0 r39.1.Versions.length, .i r39.1.Horizon])), (25000, R43 r39.1.Versions)]) (by simp; exact Sub.table (by simp) (by simp)) ?_
    refine AW.skip ?_
    refine blockQ.normal ?_
    refine thenQ_normal ?_
    refine AW.region ?_
    replace h := bsome h; obtain ⟨v43, hv43, h⟩ := h
    have hv43 := chkI_some hv43
    refine Chain.runK [] 2 fun K hK => ?_; simp [hv43]; refine hK _ _ ?_; clear hK K
    refine Chain.sub (S' := mk 33 [1000] [(0, .ptr 1000 0 0), (1, .i a1), (5, .ref 30 0 l11.length), (11, .d (.sl (r1.2.map cS))), (12, .i (r1.2.length : Int)), (13, .i v43)] [(30, R79 l11), (1000, some (.box [.ref 25000 0 r39.1.Versions.length, .i r39.1.Horizon])), (25000, R43 r39.1.Versions)]) Sub.tt ?_
    refine Chain.nil ?_
    cases h
    refine PostI.next ?_
    exact Sub.tt
  ·have c36_ : decide (v12 < (r1.2.length : Int)) = false := decide_eq_false c36
   refine AW.condF (b := decide (v12 < (r1.2.length : Int))) rfl c36_ ?_
   refine AW.sub (Sub.bool 14 (b := decide (v12 < (r1.2.length : Int))) rfl c36_) ?_
   refine AW.sub (S' := mk 33 [1000] [(0, .ptr 1000 0 0), (1, .i a1), (5, .ref 30 0 l11.length), (11, .d (.sl (r1.2.map cS))), (12, .i (r1.2.length : Int)), (13, .i v12), (14, .b false)] [(30, R79 l11), (1000, some (.box [.ref 25000 0 l9.length, .i v10])), (25000, R43 l9)]) (by simp; exact Sub.table (by simp) (by simp)) ?_
   refine AW.exit ?_
   cases h
   refine thenQ_pass (by simp) ?_
   refine PostI.out (by simp) ?_
   rintro rfl
   refine blockQ.hit ?_
   refine PostN.next ?_
   exact Sub.tt
 ·rintro ⟨l33, l34, v35⟩ h
  dsimp only at h ⊢
  refine thenQ_normal ?_
  refine AW.seqR ?_
  refine Chain.runK [] 2 fun K hK => ?_; simp; refine hK _ _ ?_; clear hK K
  refine Chain.sub (S' := mk 33 [1000] [(4, .ref 30 0 l33.length)] [(30, R79 l33), (1000, some (.box [.ref 25000 0 l34.length, .i v35])), (25000, R43 l34)]) Sub.tt ?_
  refine Chain.nil ?_
  refine AW.sub (Sub.freeze 30 rfl) ?_
  refine AW.sub (S' := mk 33 [1000] [(4, .d (.sl (l33.map cS79)))] [(1000, some (.box [.ref 25000 0 l34.length, .i v35])), (25000, R43 l34)]) (by simp; exact Sub.table (by simp) (by simp)) ?_
  refine AW.ret ?_
  cases h
  exact FinF.ret (by simp) (by simp)

end Go.Proofs.Ytifcmomjjkbboac
