/- Functions of the program as functional programs; the code computes them. -/
import Derived.Test.YtdiekinmoklonaaLk2
namespace Go.Proofs.Ytdiekinmoklonaa
open Go.Ab Go.Rp
attribute [-simp] List.all_eq_true Array.all_toList Array.all_eq_true

/-- (*stemma/locks.Manager).blockers -/
def d20 (N : Nat) (a0 : S48) (a1 : S29) (a2 : Int) : Option (List Int) :=
 (natI a2 a0.queue.length).bind fun n1 =>
 letv (a0.queue.take n1) fun l2 =>
 (d40 N ([a0.granted, l2] : List (List S29))).bind fun r3 =>
 Option.bind (α := List Int) (
  iterN (σ := ((List Int) × Int)) (ρ := List Int) (fun ((l17, v18) : ((List Int) × Int)) =>
   if v18 < (r3.length : Int) then (
    (idx r3 v18).bind fun x51 =>
    Option.bind (α := Bool) (
     (d41 N x51 a1).bind fun r57 =>
     if r57 = true then (
      (d42 N l17 x51.Tx).bind fun r59 =>
      some (!r59)
     ) else
     some false
    ) fun (v56 : Bool) =>
    if v56 = true then (
     (appL 8 l17 [x51.Tx]).bind fun _l61 =>
     (chkI (v18 + 1)).bind fun v62 =>
     some (.inl ((l17 ++ [x51.Tx]), v62))
    ) else
    (chkI (v18 + 1)).bind fun v63 =>
    some (.inl (l17, v63))
   ) else
   some (.inr l17)
  ) N (([] : List Int), 0)
 ) fun (l49 : List Int) =>
 (d43 N l49).bind fun r64 =>
 some r64
set_option maxRecDepth 100000 in
set_option maxHeartbeats 4000000 in
theorem p20 (N : Nat) (a0 : S48) (a1 : S29) (a2 : Int) (r : (List Int)) (h : d20 N a0 a1 a2 = some r) : FunO Try.prog 20 [.d (.pim [.sl (a0.granted.map cS29), .sl (a0.queue.map cS29)]), .agg [.d (.lit (.int .i64 a1.Tx)), .d (.lit (.string a1.Table)), .d (.lit (.string a1.Key)), .d (.lit (.int .i64 a1.Mode))], .d (.lit (.int .i64 a2))] (.ref 0 0 r.length) (.arr 3 1 (r.map (cI .i64))) := by
 unfold d20 at h
 refine FunO.enter 46 [(0, .d (.pim [.sl (a0.granted.map cS29), .sl (a0.queue.map cS29)])), (1, .agg [.i a1.Tx, .d (.lit (.string a1.Table)), .d (.lit (.string a1.Key)), .i a1.Mode]), (2, .i a2)] Try.func20 rfl (of_decide_eq_true rfl) rfl rfl ?_
 refine AW.seqR ?_
 refine Chain.runK [] 2 fun K hK => ?_; simp; refine hK _ _ ?_; clear hK K
 refine Chain.sub (S' := mk 46 [] [(0, .d (.pim [.sl (a0.granted.map cS29), .sl (a0.queue.map cS29)])), (2, .i a2), (4, .ptr 4 0 0)] [(4, some (.box [.i a1.Tx, .d (.lit (.string a1.Table)), .d (.lit (.string a1.Key)), .i a1.Mode]))]) Sub.tt ?_
 refine Chain.nil ?_
 refine AW.seqR ?_
 refine Chain.runK [] 1 fun K hK => ?_; simp; refine hK _ _ ?_; clear hK K
 refine Chain.sub (S' := mk 46 [] [(0, .d (.pim [.sl (a0.granted.map cS29), .sl (a0.queue.map cS29)])), (2, .i a2), (4, .ptr 4 0 0), (7, .d (.lit (.slice none 0 0)))] [(4, some (.box [.i a1.Tx, .d (.lit (.string a1.Table)), .d (.lit (.string a1.Key)), .i a1.Mode]))]) Sub.tt ?_
 refine Chain.nil ?_
 refine AW.seq ?_
 replace h := bsome h; obtain ⟨n1, gn1, h⟩ := h
 obtain ⟨hn1a, hn1⟩ := natI_some gn1
 clear gn1
 subst hn1a
 replace h := lsome h; obtain ⟨l2, gl2, h⟩ := h
 have hl2 : ((a0.queue.map cS29).take n1) = l2.map cS29 := by rw [← gl2]; simp
 clear gl2
 replace h := bsome h; obtain ⟨r3, hr3, h⟩ := h
 refine AW.seqAnyS [[], [0], [0, 1], [0, 1, 2], [], [4], [4, 5], [4, 5, 6], [], [4, 5, 6, 7, 8], [0, 1, 2, 3, 4, 5, 6, 7, 8, 9], [0, 1, 2, 3, 4, 5, 6, 7, 8, 9, 10], [0, 1, 2, 3, 4, 5, 6, 7, 8, 9, 10, 11], []] (fun (b : Nat → Bool) => mk 46 [] [(0, .d (.pim [.sl (a0.granted.map cS29), .sl (a0.queue.map cS29)])), (2, .i (n1 : Int)), (4, .ptr 4 0 0), (7, .d (.lit (.slice none 0 0))), (10, (if b 0 then .d (.pim [.sl (a0.granted.map cS29), .sl (a0.queue.map cS29)]) else .junk)), (11, (if b 1 then .d (.pim [.sl (a0.granted.map cS29), .sl (a0.queue.map cS29)]) else .junk)), (12, (if b 2 then .d (.pim [.sl (a0.granted.map cS29), .sl (a0.queue.map cS29)]) else .junk)), (13, (if b 3 then .d (.sl (a0.granted.map cS29)) else .junk)), (14, (if b 4 then .d (.pim [.sl (a0.granted.map cS29), .sl (a0.queue.map cS29)]) else .junk)), (15, (if b 5 then .d (.pim [.sl (a0.granted.map cS29), .sl (a0.queue.map cS29)]) else .junk)), (16, (if b 6 then .d (.pim [.sl (a0.queue.map cS29)]) else .junk)), (17, (if b 7 then .d (.sl (a0.queue.map cS29)) else .junk)), (18, (if b 8 then .i (n1 : Int) else .junk)), (19, (if b 9 then .d (.sl (l2.map cS29)) else .junk)), (20, (if b 10 then .ref 20 0 (([a0.granted, l2] : List (List S29)).length) else .junk)), (21, (if b 11 then .ref 21 0 r3.length else .junk)), (22, (if b 12 then .i (r3.length : Int) else .junk)), (23, (if b 13 then .i 0 else .junk))] [(4, some (.box [.i a1.Tx, .d (.lit (.string a1.Table)), .d (.lit (.string a1.Key)), .i a1.Mode])), (20, (if b 10 then R46 ([a0.granted, l2] : List (List S29)) else none)), (21, (if b 11 then R29 r3 else none))]) (mk 46 [] [(4, .ptr 4 0 0), (7, .d (.lit (.slice none 0 0))), (21, .ref 21 0 r3.length), (22, .i (r3.length : Int)), (23, .i 0)] [(4, some (.box [.i a1.Tx, .d (.lit (.string a1.Table)), .d (.lit (.string a1.Key)), .i a1.Mode])), (21, R29 r3)]) (by kernel_rfl) (by kernel_rfl) Sub.tt (Steps.cons ?_ (Steps.cons ?_ (Steps.cons ?_ (Steps.cons ?_ (Steps.cons ?_ (Steps.cons ?_ (Steps.cons ?_ (Steps.cons ?_ (Steps.cons ?_ (Steps.cons ?_ (Steps.cons ?_ (Steps.cons ?_ (Steps.cons ?_ (Steps.cons ?_ (Steps.nil))))))))))))))) ?_ ?_
 ·intro b h0 ha hd
  have f1 : b 1 = false := hd 1 (by decide)
  have f2 : b 2 = false := hd 2 (by decide)
  have f3 : b 3 = false := hd 3 (by decide)
  have f10 : b 10 = false := hd 10 (by decide)
  have f11 : b 11 = false := hd 11 (by decide)
  have f12 : b 12 = false := hd 12 (by decide)
  refine Chain.runK [] 1 fun K hK => ?_; simp [h0, f1, f2, f3, f10, f11, f12]; refine hK _ _ ?_; clear hK K
  exact Chain.nil (Sub.table (by simp [f1, f2, f3, f10, f11, f12]) (by simp [f10, f11]))
 ·intro b h0 ha hd
  have t0 : b 0 = true := ha 0 (by decide)
  have f2 : b 2 = false := hd 2 (by decide)
  have f3 : b 3 = false := hd 3 (by decide)
  have f10 : b 10 = false := hd 10 (by decide)
  have f11 : b 11 = false := hd 11 (by decide)
  have f12 : b 12 = false := hd 12 (by decide)
  refine Chain.runK [] 1 fun K hK => ?_; simp [h0, t0, f2, f3, f10, f11, f12]; refine hK _ _ ?_; clear hK K
  exact Chain.nil (Sub.table (by simp [t0, f2, f3, f10, f11, f12]) (by simp [f10, f11]))
 ·intro b h0 ha hd
  have t0 : b 0 = true := ha 0 (by decide)
  have t1 : b 1 = true := ha 1 (by decide)
  have f3 : b 3 = false := hd 3 (by decide)
  have f10 : b 10 = false := hd 10 (by decide)
  have f11 : b 11 = false := hd 11 (by decide)
  have f12 : b 12 = false := hd 12 (by decide)
  refine Chain.runK [] 1 fun K hK => ?_; simp [h0, t0, t1, f3, f10, f11, f12]; refine hK _ _ ?_; clear hK K
  exact Chain.nil (Sub.table (by simp [t0, t1, f3, f10, f11, f12]) (by simp [f10, f11]))
 ·intro b h0 ha hd
  have t0 : b 0 = true := ha 0 (by decide)
  have t1 : b 1 = true := ha 1 (by decide)
  have t2 : b 2 = true := ha 2 (by decide)
  have f10 : b 10 = false := hd 10 (by decide)
  have f11 : b 11 = false := hd 11 (by decide)
  have f12 : b 12 = false := hd 12 (by decide)
  refine Chain.runK [] 1 fun K hK => ?_; simp [h0, t0, t1, t2, f10, f11, f12]; refine hK _ _ ?_; clear hK K
  exact Chain.nil (Sub.table (by simp [t0, t1, t2, f10, f11, f12]) (by simp [f10, f11]))
 ·intro b h0 ha hd
  have f5 : b 5 = false := hd 5 (by decide)
  have f6 : b 6 = false := hd 6 (by decide)
  have f7 : b 7 = false := hd 7 (by decide)
  have f9 : b 9 = false := hd 9 (by decide)
  have f10 : b 10 = false := hd 10 (by decide)
  have f11 : b 11 = false := hd 11 (by decide)
  have f12 : b 12 = false := hd 12 (by decide)
  refine Chain.runK [] 1 fun K hK => ?_; simp [h0, f5, f6, f7, f9, f10, f11, f12]; refine hK _ _ ?_; clear hK K
  exact Chain.nil (Sub.table (by simp [f5, f6, f7, f9, f10, f11, f12]) (by simp [f10, f11]))
 ·intro b h0 ha hd
  have t4 : b 4 = true := ha 4 (by decide)
  have f6 : b 6 = false := hd 6 (by decide)
  have f7 : b 7 = false := hd 7 (by decide)
  have f9 : b 9 = false := hd 9 (by decide)
  have f10 : b 10 = false := hd 10 (by decide)
  have f11 : b 11 = false := hd 11 (by decide)
  have f12 : b 12 = false := hd 12 (by decide)
  refine Chain.runK [] 1 fun K hK => ?_; simp [h0, t4, f6, f7, f9, f10, f11, f12]; refine hK _ _ ?_; clear hK K
  exact Chain.nil (Sub.table (by simp [t4, f6, f7, f9, f10, f11, f12]) (by simp [f10, f11]))
 ·intro b h0 ha hd
  have t4 : b 4 = true := ha 4 (by decide)
  have t5 : b 5 = true := ha 5 (by decide)
  have f7 : b 7 = false := hd 7 (by decide)
  have f9 : b 9 = false := hd 9 (by decide)
  have f10 : b 10 = false := hd 10 (by decide)
  have f11 : b 11 = false := hd 11 (by decide)
  have f12 : b 12 = false := hd 12 (by decide)
  refine Chain.runK [] 1 fun K hK => ?_; simp [h0, t4, t5, f7, f9, f10, f11, f12]; refine hK _ _ ?_; clear hK K
  exact Chain.nil (Sub.table (by simp [t4, t5, f7, f9, f10, f11, f12]) (by simp [f10, f11]))
 ·intro b h0 ha hd
  have t4 : b 4 = true := ha 4 (by decide)
  have t5 : b 5 = true := ha 5 (by decide)
  have t6 : b 6 = true := ha 6 (by decide)
  have f9 : b 9 = false := hd 9 (by decide)
  have f10 : b 10 = false := hd 10 (by decide)
  have f11 : b 11 = false := hd 11 (by decide)
  have f12 : b 12 = false := hd 12 (by decide)
  refine Chain.runK [] 1 fun K hK => ?_; simp [h0, t4, t5, t6, f9, f10, f11, f12]; refine hK _ _ ?_; clear hK K
  exact Chain.nil (Sub.table (by simp [t4, t5, t6, f9, f10, f11, f12]) (by simp [f10, f11]))
 ·intro b h0 ha hd
  have f9 : b 9 = false := hd 9 (by decide)
  have f10 : b 10 = false := hd 10 (by decide)
  have f11 : b 11 = false := hd 11 (by decide)
  have f12 : b 12 = false := hd 12 (by decide)
  refine Chain.runK [] 1 fun K hK => ?_; simp [h0, f9, f10, f11, f12]; refine hK _ _ ?_; clear hK K
  exact Chain.nil (Sub.table (by simp [f9, f10, f11, f12]) (by simp [f10, f11]))
 ·intro b h0 ha hd
  have t4 : b 4 = true := ha 4 (by decide)
  have t5 : b 5 = true := ha 5 (by decide)
  have t6 : b 6 = true := ha 6 (by decide)
  have t7 : b 7 = true := ha 7 (by decide)
  have t8 : b 8 = true := ha 8 (by decide)
  have f10 : b 10 = false := hd 10 (by decide)
  have f11 : b 11 = false := hd 11 (by decide)
  have f12 : b 12 = false := hd 12 (by decide)
  refine Chain.runK [] 1 fun K hK => ?_; simp [h0, t4, t5, t6, t7, t8, f10, f11, f12, hn1, hl2]; refine hK _ _ ?_; clear hK K
  exact Chain.nil (Sub.table (by simp [t4, t5, t6, t7, t8, f10, f11, f12]) (by simp [f10, f11]))
 ·intro b h0 ha hd
  have t0 : b 0 = true := ha 0 (by decide)
  have t1 : b 1 = true := ha 1 (by decide)
  have t2 : b 2 = true := ha 2 (by decide)
  have t3 : b 3 = true := ha 3 (by decide)
  have t4 : b 4 = true := ha 4 (by decide)
  have t5 : b 5 = true := ha 5 (by decide)
  have t6 : b 6 = true := ha 6 (by decide)
  have t7 : b 7 = true := ha 7 (by decide)
  have t8 : b 8 = true := ha 8 (by decide)
  have t9 : b 9 = true := ha 9 (by decide)
  have f11 : b 11 = false := hd 11 (by decide)
  have f12 : b 12 = false := hd 12 (by decide)
  refine Chain.runK [] 1 fun K hK => ?_; simp [h0, t0, t1, t2, t3, t4, t5, t6, t7, t8, t9, f11, f12]; refine hK _ _ ?_; clear hK K
  exact Chain.nil (Sub.table (by simp [t0, t1, t2, t3, t4, t5, t6, t7, t8, t9, f11, f12]) (by simp [f11]))
 ·intro b h0 ha hd
  have t0 : b 0 = true := ha 0 (by decide)
  have t1 : b 1 = true := ha 1 (by decide)
  have t2 : b 2 = true := ha 2 (by decide)
  have t3 : b 3 = true := ha 3 (by decide)
  have t4 : b 4 = true := ha 4 (by decide)
  have t5 : b 5 = true := ha 5 (by decide)
  have t6 : b 6 = true := ha 6 (by decide)
  have t7 : b 7 = true := ha 7 (by decide)
  have t8 : b 8 = true := ha 8 (by decide)
  have t9 : b 9 = true := ha 9 (by decide)
  have t10 : b 10 = true := ha 10 (by decide)
  have f12 : b 12 = false := hd 12 (by decide)
  simp only [h0, t0, t1, t2, t3, t4, t5, t6, t7, t8, t9, t10, f12, if_true, if_false, Bool.false_eq_true]
  refine Chain.callOF (d := 21) (p40 N ([a0.granted, l2] : List (List S29)) r3 hr3) (by simp) rfl rfl (by simp <;> rfl) (by simp <;> rfl) ent40 (by simp) (fun r h => flat_of_ren r h) (flat_map (by simp) _) ?_
  exact Chain.nil (by simp [t0, t1, t2, t3, t4, t5, t6, t7, t8, t9, t10, f12]; exact Sub.table (by simp) (by simp))
 ·intro b h0 ha hd
  have t0 : b 0 = true := ha 0 (by decide)
  have t1 : b 1 = true := ha 1 (by decide)
  have t2 : b 2 = true := ha 2 (by decide)
  have t3 : b 3 = true := ha 3 (by decide)
  have t4 : b 4 = true := ha 4 (by decide)
  have t5 : b 5 = true := ha 5 (by decide)
  have t6 : b 6 = true := ha 6 (by decide)
  have t7 : b 7 = true := ha 7 (by decide)
  have t8 : b 8 = true := ha 8 (by decide)
  have t9 : b 9 = true := ha 9 (by decide)
  have t10 : b 10 = true := ha 10 (by decide)
  have t11 : b 11 = true := ha 11 (by decide)
  refine Chain.runK [] 1 fun K hK => ?_; simp [h0, t0, t1, t2, t3, t4, t5, t6, t7, t8, t9, t10, t11]; refine hK _ _ ?_; clear hK K
  exact Chain.nil (Sub.table (by simp [t0, t1, t2, t3, t4, t5, t6, t7, t8, t9, t10, t11]) (by simp [t10, t11]))
 ·intro b h0 ha hd
  refine Chain.runK [] 1 fun K hK => ?_; simp [h0]; refine hK _ _ ?_; clear hK K
  exact Chain.nil (Sub.table (by simp) (by simp))
 ·intro b hb
  have t0 := hb 0 (by decide)
  have t1 := hb 1 (by decide)
  have t2 := hb 2 (by decide)
  have t3 := hb 3 (by decide)
  have t4 := hb 4 (by decide)
  have t5 := hb 5 (by decide)
  have t6 := hb 6 (by decide)
  have t7 := hb 7 (by decide)
  have t8 := hb 8 (by decide)
  have t9 := hb 9 (by decide)
  have t10 := hb 10 (by decide)
  have t11 := hb 11 (by decide)
  have t12 := hb 12 (by decide)
  have t13 := hb 13 (by decide)
  exact Sub.table (by simp [t0, t1, t2, t3, t4, t5, t6, t7, t8, t9, t10, t11, t12, t13]) (by simp [t10, t11])
 ·skip
  refine AW.lastN (fun (l49 : List Int) => mk 46 [] [(7, .ref 41 0 l49.length)] [(41, R3 l49)]) h ?_ ?_ <;> clear h
  ·intro o h
   refine AW.block ?_
   refine AW.iter (fun ((l17, v18) : ((List Int) × Int)) => mk 46 [] [(4, .ptr 4 0 0), (7, .ref 41 0 l17.length), (21, .ref 21 0 r3.length), (22, .i (r3.length : Int)), (23, .i v18)] [(4, some (.box [.i a1.Tx, .d (.lit (.string a1.Table)), .d (.lit (.string a1.Key)), .i a1.Mode])), (21, R29 r3), (41, R3 l17)]) h (Sub.trans (Sub.nilOwn (t := 7) (id := 41) (T := 3) (n := 1) rfl rfl (by decide)) (by simp; exact Sub.table (by simp) (by simp))) ?_
   clear h
   rintro ⟨l17, v18⟩ x h
   dsimp only at h ⊢
   refine AW.seqR ?_
   refine Chain.runK [] 1 fun K hK => ?_; simp; refine hK _ _ ?_; clear hK K
   refine Chain.sub (S' := mk 46 [] [(4, .ptr 4 0 0), (7, .ref 41 0 l17.length), (21, .ref 21 0 r3.length), (22, .i (r3.length : Int)), (23, .i v18), (24, .b (decide (v18 < (r3.length : Int))))] [(4, some (.box [.i a1.Tx, .d (.lit (.string a1.Table)), .d (.lit (.string a1.Key)), .i a1.Mode])), (21, R29 r3), (41, R3 l17)]) Sub.tt ?_
   refine Chain.nil ?_
   refine AW.seq ?_
   replace h := isome h; rcases h with ⟨c50, h⟩ | ⟨c50, h⟩
   ·have c50_ : decide (v18 < (r3.length : Int)) = true := decide_eq_true c50
    refine AW.condT (b := decide (v18 < (r3.length : Int))) rfl c50_ ?_
    refine AW.sub (Sub.bool 24 (b := decide (v18 < (r3.length : Int))) rfl c50_) ?_
    refine AW.sub (S' := mk 46 [] [(4, .ptr 4 0 0), (7, .ref 41 0 l17.length), (21, .ref 21 0 r3.length), (22, .i (r3.length : Int)), (23, .i v18), (24, .b true)] [(4, some (.box [.i a1.Tx, .d (.lit (.string a1.Table)), .d (.lit (.string a1.Key)), .i a1.Mode])), (21, R29 r3), (41, R3 l17)]) (by simp; exact Sub.table (by simp) (by simp)) ?_
    refine AW.skip ?_
    refine thenQ_normal ?_
    refine AW.seq ?_
    refine AW.block ?_
    refine AW.seqR ?_
    replace h := bsome h; obtain ⟨x51, hx51, h⟩ := h
    obtain ⟨k52, hx51k, hx51, hx51a, hx51b⟩ := idx_some hx51
    refine Chain.runK [] 4 fun K hK => ?_; simp [hx51, hx51k, hx51a, hx51b]; refine hK _ _ ?_; clear hK K
    refine Chain.sub (S' := mk 46 [] [(4, .ptr 4 0 0), (7, .ref 41 0 l17.length), (9, .ptr 9 0 0), (21, .ref 21 0 r3.length), (22, .i (r3.length : Int)), (23, .i v18)] [(4, some (.box [.i a1.Tx, .d (.lit (.string a1.Table)), .d (.lit (.string a1.Key)), .i a1.Mode])), (9, some (.box [.i x51.Tx, .d (.lit (.string x51.Table)), .d (.lit (.string x51.Key)), .i x51.Mode])), (21, R29 r3), (41, R3 l17)]) Sub.tt ?_
    refine Chain.nil ?_
    replace h := bsome h; obtain ⟨v56, hj, h⟩ := h
    refine AW.cutR (mk 46 [] [(4, .ptr 4 0 0), (7, .ref 41 0 l17.length), (9, .ptr 9 0 0), (21, .ref 21 0 r3.length), (22, .i (r3.length : Int)), (23, .i v18), (36, .b v56)] [(4, some (.box [.i a1.Tx, .d (.lit (.string a1.Table)), .d (.lit (.string a1.Key)), .i a1.Mode])), (9, some (.box [.i x51.Tx, .d (.lit (.string x51.Table)), .d (.lit (.string x51.Key)), .i x51.Mode])), (21, R29 r3), (41, R3 l17)]) ?_ ?_
    ·clear h; have h := hj; clear hj
     refine Chain.runK [] 2 fun K hK => ?_; simp; refine hK _ _ ?_; clear hK K
     refine Chain.sub (S' := mk 46 [] [(4, .ptr 4 0 0), (7, .ref 41 0 l17.length), (9, .ptr 9 0 0), (21, .ref 21 0 r3.length), (22, .i (r3.length : Int)), (23, .i v18), (27, .agg [.i x51.Tx, .d (.lit (.string x51.Table)), .d (.lit (.string x51.Key)), .i x51.Mode]), (28, .agg [.i a1.Tx, .d (.lit (.string a1.Table)), .d (.lit (.string a1.Key)), .i a1.Mode])] [(4, some (.box [.i a1.Tx, .d (.lit (.string a1.Table)), .d (.lit (.string a1.Key)), .i a1.Mode])), (9, some (.box [.i x51.Tx, .d (.lit (.string x51.Table)), .d (.lit (.string x51.Key)), .i x51.Mode])), (21, R29 r3), (41, R3 l17)]) Sub.tt ?_
     replace h := bsome h; obtain ⟨r57, hr57, h⟩ := h
     refine Chain.callL (d := 29) (p41 N x51 a1 r57 hr57) (by simp) rfl rfl (by simp <;> rfl) (by simp <;> rfl) ent41 (by simp <;> rfl) ?_
     refine Chain.sub (S' := mk 46 [] [(4, .ptr 4 0 0), (7, .ref 41 0 l17.length), (9, .ptr 9 0 0), (21, .ref 21 0 r3.length), (22, .i (r3.length : Int)), (23, .i v18), (27, .agg [.i x51.Tx, .d (.lit (.string x51.Table)), .d (.lit (.string x51.Key)), .i x51.Mode]), (28, .agg [.i a1.Tx, .d (.lit (.string a1.Table)), .d (.lit (.string a1.Key)), .i a1.Mode]), (29, .b r57)] [(4, some (.box [.i a1.Tx, .d (.lit (.string a1.Table)), .d (.lit (.string a1.Key)), .i a1.Mode])), (9, some (.box [.i x51.Tx, .d (.lit (.string x51.Table)), .d (.lit (.string x51.Key)), .i x51.Mode])), (21, R29 r3), (41, R3 l17)]) (by simp; exact Sub.table (by simp) (by simp)) ?_
     refine Chain.runK [] 1 fun K hK => ?_; simp; refine hK _ _ ?_; clear hK K
     refine Chain.sub (S' := mk 46 [] [(4, .ptr 4 0 0), (7, .ref 41 0 l17.length), (9, .ptr 9 0 0), (21, .ref 21 0 r3.length), (22, .i (r3.length : Int)), (23, .i v18), (30, .b r57)] [(4, some (.box [.i a1.Tx, .d (.lit (.string a1.Table)), .d (.lit (.string a1.Key)), .i a1.Mode])), (9, some (.box [.i x51.Tx, .d (.lit (.string x51.Table)), .d (.lit (.string x51.Key)), .i x51.Mode])), (21, R29 r3), (41, R3 l17)]) Sub.tt ?_
     replace h := isome h; rcases h with ⟨c58, h⟩ | ⟨c58, h⟩
     ·have c58_ : r57 = true := c58
      refine Chain.sub (Sub.bool 30 (b := r57) rfl c58_) ?_
      refine Chain.sub (S' := mk 46 [] [(4, .ptr 4 0 0), (7, .ref 41 0 l17.length), (9, .ptr 9 0 0), (21, .ref 21 0 r3.length), (22, .i (r3.length : Int)), (23, .i v18), (30, .b true)] [(4, some (.box [.i a1.Tx, .d (.lit (.string a1.Table)), .d (.lit (.string a1.Key)), .i a1.Mode])), (9, some (.box [.i x51.Tx, .d (.lit (.string x51.Table)), .d (.lit (.string x51.Key)), .i x51.Mode])), (21, R29 r3), (41, R3 l17)]) (by simp; exact Sub.table (by simp) (by simp)) ?_
      refine Chain.runK [] 3 fun K hK => ?_; simp; refine hK _ _ ?_; clear hK K
      refine Chain.sub (S' := mk 46 [] [(4, .ptr 4 0 0), (7, .ref 41 0 l17.length), (9, .ptr 9 0 0), (21, .ref 21 0 r3.length), (22, .i (r3.length : Int)), (23, .i v18), (30, .b true), (31, .ref 41 0 l17.length), (32, .ptr 9 0 0), (33, .i x51.Tx)] [(4, some (.box [.i a1.Tx, .d (.lit (.string a1.Table)), .d (.lit (.string a1.Key)), .i a1.Mode])), (9, some (.box [.i x51.Tx, .d (.lit (.string x51.Table)), .d (.lit (.string x51.Key)), .i x51.Mode])), (21, R29 r3), (41, R3 l17)]) Sub.tt ?_
      replace h := bsome h; obtain ⟨r59, hr59, h⟩ := h
      refine Chain.callL (d := 34) (p42 N l17 x51.Tx r59 hr59) (by simp) rfl rfl (by simp <;> rfl) (by simp <;> rfl) ent42 (by simp <;> rfl) ?_
      refine Chain.sub (S' := mk 46 [] [(4, .ptr 4 0 0), (7, .ref 41 0 l17.length), (9, .ptr 9 0 0), (21, .ref 21 0 r3.length), (22, .i (r3.length : Int)), (23, .i v18), (30, .b true), (31, .ref 41 0 l17.length), (32, .ptr 9 0 0), (33, .i x51.Tx), (34, .b r59)] [(4, some (.box [.i a1.Tx, .d (.lit (.string a1.Table)), .d (.lit (.string a1.Key)), .i a1.Mode])), (9, some (.box [.i x51.Tx, .d (.lit (.string x51.Table)), .d (.lit (.string x51.Key)), .i x51.Mode])), (21, R29 r3), (41, R3 l17)]) (by simp; exact Sub.table (by simp) (by simp)) ?_
      refine Chain.runK [] 2 fun K hK => ?_; simp; refine hK _ _ ?_; clear hK K
      refine Chain.sub (S' := mk 46 [] [(4, .ptr 4 0 0), (7, .ref 41 0 l17.length), (9, .ptr 9 0 0), (21, .ref 21 0 r3.length), (22, .i (r3.length : Int)), (23, .i v18), (31, .ref 41 0 l17.length), (32, .ptr 9 0 0), (33, .i x51.Tx), (34, .b r59), (35, .b (!r59)), (36, .b (!r59))] [(4, some (.box [.i a1.Tx, .d (.lit (.string a1.Table)), .d (.lit (.string a1.Key)), .i a1.Mode])), (9, some (.box [.i x51.Tx, .d (.lit (.string x51.Table)), .d (.lit (.string x51.Key)), .i x51.Mode])), (21, R29 r3), (41, R3 l17)]) Sub.tt ?_
      cases h
      exact Chain.nil Sub.tt
     ·have c58_ : r57 = false := Bool.eq_false_iff.2 c58
      refine Chain.sub (Sub.bool 30 (b := r57) rfl c58_) ?_
      refine Chain.sub (S' := mk 46 [] [(4, .ptr 4 0 0), (7, .ref 41 0 l17.length), (9, .ptr 9 0 0), (21, .ref 21 0 r3.length), (22, .i (r3.length : Int)), (23, .i v18), (30, .b false)] [(4, some (.box [.i a1.Tx, .d (.lit (.string a1.Table)), .d (.lit (.string a1.Key)), .i a1.Mode])), (9, some (.box [.i x51.Tx, .d (.lit (.string x51.Table)), .d (.lit (.string x51.Key)), .i x51.Mode])), (21, R29 r3), (41, R3 l17)]) (by simp; exact Sub.table (by simp) (by simp)) ?_
      refine Chain.runK [] 6 fun K hK => ?_; simp; refine hK _ _ ?_; clear hK K
      refine Chain.sub (S' := mk 46 [] [(4, .ptr 4 0 0), (7, .ref 41 0 l17.length), (9, .ptr 9 0 0), (21, .ref 21 0 r3.length), (22, .i (r3.length : Int)), (23, .i v18), (31, .tup []), (32, .tup []), (33, .tup []), (34, .tup []), (35, .tup []), (36, .b false)] [(4, some (.box [.i a1.Tx, .d (.lit (.string a1.Table)), .d (.lit (.string a1.Key)), .i a1.Mode])), (9, some (.box [.i x51.Tx, .d (.lit (.string x51.Table)), .d (.lit (.string x51.Key)), .i x51.Mode])), (21, R29 r3), (41, R3 l17)]) Sub.tt ?_
      cases h
      exact Chain.nil Sub.tt
    ·clear hj
     replace h := isome h; rcases h with ⟨c60, h⟩ | ⟨c60, h⟩
     ·have c60_ : v56 = true := c60
      refine AW.condT (b := v56) rfl c60_ ?_
      refine AW.sub (Sub.bool 36 (b := v56) rfl c60_) ?_
      refine AW.sub (S' := mk 46 [] [(4, .ptr 4 0 0), (7, .ref 41 0 l17.length), (9, .ptr 9 0 0), (21, .ref 21 0 r3.length), (22, .i (r3.length : Int)), (23, .i v18), (36, .b true)] [(4, some (.box [.i a1.Tx, .d (.lit (.string a1.Table)), .d (.lit (.string a1.Key)), .i a1.Mode])), (9, some (.box [.i x51.Tx, .d (.lit (.string x51.Table)), .d (.lit (.string x51.Key)), .i x51.Mode])), (21, R29 r3), (41, R3 l17)]) (by simp; exact Sub.table (by simp) (by simp)) ?_
      refine AW.region ?_
      replace h := bsome h; obtain ⟨l61, hl61, h⟩ := h
      obtain ⟨hl61a, hl61⟩ := appL_some hl61
      subst hl61
      try simp only [List.length_cons, List.length_nil, Nat.zero_add] at hl61a
      refine Chain.runK [40] 6 fun K hK => ?_; simp [hl61a]; refine hK _ _ ?_; clear hK K
      refine Chain.sub (S' := mk 46 [] [(4, .ptr 4 0 0), (7, .ref 41 0 ((l17 ++ [x51.Tx]).length)), (21, .ref 21 0 r3.length), (22, .i (r3.length : Int)), (23, .i v18)] [(4, some (.box [.i a1.Tx, .d (.lit (.string a1.Table)), .d (.lit (.string a1.Key)), .i a1.Mode])), (21, R29 r3), (41, R3 (l17 ++ [x51.Tx]))]) Sub.tt ?_
      refine Chain.nil ?_
      refine blockQ.normal ?_
      refine thenQ_normal ?_
      refine AW.region ?_
      replace h := bsome h; obtain ⟨v62, hv62, h⟩ := h
      have hv62 := chkI_some hv62
      refine Chain.runK [] 2 fun K hK => ?_; simp [hv62]; refine hK _ _ ?_; clear hK K
      refine Chain.sub (S' := mk 46 [] [(4, .ptr 4 0 0), (7, .ref 41 0 ((l17 ++ [x51.Tx]).length)), (21, .ref 21 0 r3.length), (22, .i (r3.length : Int)), (23, .i v62)] [(4, some (.box [.i a1.Tx, .d (.lit (.string a1.Table)), .d (.lit (.string a1.Key)), .i a1.Mode])), (21, R29 r3), (41, R3 (l17 ++ [x51.Tx]))]) Sub.tt ?_
      refine Chain.nil ?_
      cases h
      refine PostI.next ?_
      exact Sub.tt
     ·have c60_ : v56 = false := Bool.eq_false_iff.2 c60
      refine AW.condF (b := v56) rfl c60_ ?_
      refine AW.sub (Sub.bool 36 (b := v56) rfl c60_) ?_
      refine AW.sub (S' := mk 46 [] [(4, .ptr 4 0 0), (7, .ref 41 0 l17.length), (9, .ptr 9 0 0), (21, .ref 21 0 r3.length), (22, .i (r3.length : Int)), (23, .i v18), (36, .b false)] [(4, some (.box [.i a1.Tx, .d (.lit (.string a1.Table)), .d (.lit (.string a1.Key)), .i a1.Mode])), (9, some (.box [.i x51.Tx, .d (.lit (.string x51.Table)), .d (.lit (.string x51.Key)), .i x51.Mode])), (21, R29 r3), (41, R3 l17)]) (by simp; exact Sub.table (by simp) (by simp)) ?_
      refine AW.skip ?_
      refine blockQ.normal ?_
      refine thenQ_normal ?_
      refine AW.region ?_
      replace h := bsome h; obtain ⟨v63, hv63, h⟩ := h
      have hv63 := chkI_some hv63
      refine Chain.runK [] 2 fun K hK => ?_; simp [hv63]; refine hK _ _ ?_; clear hK K
      refine Chain.sub (S' := mk 46 [] [(4, .ptr 4 0 0), (7, .ref 41 0 l17.length), (21, .ref 21 0 r3.length), (22, .i (r3.length : Int)), (23, .i v63)] [(4, some (.box [.i a1.Tx, .d (.lit (.string a1.Table)), .d (.lit (.string a1.Key)), .i a1.Mode])), (21, R29 r3), (41, R3 l17)]) Sub.tt ?_
      refine Chain.nil ?_
      cases h
      refine PostI.next ?_
      exact Sub.tt
   ·have c50_ : decide (v18 < (r3.length : Int)) = false := decide_eq_false c50
    refine AW.condF (b := decide (v18 < (r3.length : Int))) rfl c50_ ?_
    refine AW.sub (Sub.bool 24 (b := decide (v18 < (r3.length : Int))) rfl c50_) ?_
    refine AW.sub (S' := mk 46 [] [(4, .ptr 4 0 0), (7, .ref 41 0 l17.length), (21, .ref 21 0 r3.length), (22, .i (r3.length : Int)), (23, .i v18), (24, .b false)] [(4, some (.box [.i a1.Tx, .d (.lit (.string a1.Table)), .d (.lit (.string a1.Key)), .i a1.Mode])), (21, R29 r3), (41, R3 l17)]) (by simp; exact Sub.table (by simp) (by simp)) ?_
    refine AW.exit ?_
    cases h
    refine thenQ_pass (by simp) ?_
    refine PostI.out (by simp) ?_
    rintro rfl
    refine blockQ.hit ?_
    refine PostN.next ?_
    exact Sub.tt
  ·rintro l49 h
   refine thenQ_normal ?_
   refine AW.seqR ?_
   refine Chain.runK [] 1 fun K hK => ?_; simp; refine hK _ _ ?_; clear hK K
   refine Chain.sub (S' := mk 46 [] [(7, .ref 41 0 l49.length), (43, .ref 41 0 l49.length)] [(41, R3 l49)]) Sub.tt ?_
   replace h := bsome h; obtain ⟨r64, hr64, h⟩ := h
   refine Chain.callF (p43 N l49 r64 hr64) [(41, 1000)] [41] [(1000, 41)] [(41, .arr 3 1 (r64.map (cI .i64)))] (.tup []) (by simp) rfl (by simp <;> rfl) (by simp) (by simp) (by simp) (by simp) (by simp) ent43 (by simp) (by simp) (by simp) (by simp) (by simp) (by simp) ?_
   have hlr64 := l43 N l49 r64 hr64
   refine Chain.sub (S' := mk 46 [] [(7, .ref 41 0 r64.length), (43, .ref 41 0 r64.length), (44, .tup [])] [(41, R3 r64)]) (by simp [hlr64]; exact Sub.table (by simp) (by simp)) ?_
   refine Chain.nil ?_
   refine AW.seqR ?_
   refine Chain.runK [] 2 fun K hK => ?_; simp; refine hK _ _ ?_; clear hK K
   refine Chain.sub (S' := mk 46 [] [(6, .ref 41 0 r64.length)] [(41, R3 r64)]) Sub.tt ?_
   refine Chain.nil ?_
   refine AW.ret ?_
   obtain rfl := Option.some.inj h
   exact FinO.ret (.ref 41 0 r64.length) 41 (by simp) (by simp) (by simp) (by simp) rfl

/-- (*stemma/locks.Manager).grant$1 -/
def d44 (N : Nat) (a0 : S29) (a1 : S29) : Option Bool :=
 (d39 N a0 a1).bind fun r1 =>
 some r1
set_option maxRecDepth 100000 in
set_option maxHeartbeats 4000000 in
theorem p44 (N : Nat) (a0 : S29) (a1 : S29) (r : Bool) (h : d44 N a0 a1 = some r) : FunC Try.prog 44 [.agg [.i a0.Tx, .d (.lit (.string a0.Table)), .d (.lit (.string a0.Key)), .i a0.Mode], .d (.pim [.lit (.int .i64 a1.Tx), .lit (.string a1.Table), .lit (.string a1.Key), .lit (.int .i64 a1.Mode)])] (.b r) := by
 unfold d44 at h
 refine FunC.enter 7 [(0, .agg [.i a0.Tx, .d (.lit (.string a0.Table)), .d (.lit (.string a0.Key)), .i a0.Mode]), (1, .d (.pim [.lit (.int .i64 a1.Tx), .lit (.string a1.Table), .lit (.string a1.Key), .lit (.int .i64 a1.Mode)]))] (by simp) Try.func44 rfl (of_decide_eq_true rfl) rfl rfl ?_
 refine AW.seqR ?_
 refine Chain.runK [] 2 fun K hK => ?_; simp; refine hK _ _ ?_; clear hK K
 refine Chain.sub (S' := mk 7 [] [(1, .d (.pim [.lit (.int .i64 a1.Tx), .lit (.string a1.Table), .lit (.string a1.Key), .lit (.int .i64 a1.Mode)])), (2, .ptr 2 0 0)] [(2, some (.box [.i a0.Tx, .d (.lit (.string a0.Table)), .d (.lit (.string a0.Key)), .i a0.Mode]))]) Sub.tt ?_
 refine Chain.nil ?_
 refine AW.seqR ?_
 refine Chain.runK [] 2 fun K hK => ?_; simp; refine hK _ _ ?_; clear hK K
 refine Chain.sub (S' := mk 7 [] [(4, .agg [.i a0.Tx, .d (.lit (.string a0.Table)), .d (.lit (.string a0.Key)), .i a0.Mode]), (5, .agg [.i a1.Tx, .d (.lit (.string a1.Table)), .d (.lit (.string a1.Key)), .i a1.Mode])] []) Sub.tt ?_
 replace h := bsome h; obtain ⟨r1, hr1, h⟩ := h
 refine Chain.callL (d := 6) (p39 N a0 a1 r1 hr1) (by simp) rfl rfl (by simp <;> rfl) (by simp <;> rfl) ent39 (by simp <;> rfl) ?_
 refine Chain.sub (S' := mk 7 [] [(4, .agg [.i a0.Tx, .d (.lit (.string a0.Table)), .d (.lit (.string a0.Key)), .i a0.Mode]), (5, .agg [.i a1.Tx, .d (.lit (.string a1.Table)), .d (.lit (.string a1.Key)), .i a1.Mode]), (6, .b r1)] []) (by simp; exact Sub.table (by simp) (by simp)) ?_
 refine Chain.runK [] 1 fun K hK => ?_; simp; refine hK _ _ ?_; clear hK K
 refine Chain.sub (S' := mk 7 [] [(3, .b r1)] []) Sub.tt ?_
 refine Chain.nil ?_
 refine AW.ret ?_
 cases h
 exact FinC.ret (by simp) (by simp)

/-- (*stemma/locks.Manager).grant -/
def d21 (N : Nat) (a0 : S48) (a1 : S29) : Option S48 :=
 (d37 N a0.granted (fun b0 => d44 N b0 a1)).bind fun r1 =>
 if r1 ≥ 0 then (
  (idx a0.granted r1).bind fun x3 =>
  letv (setI a0.granted r1 (S29.mk x3.Tx x3.Table x3.Key a1.Mode)) fun l5 =>
  some (S48.mk l5 a0.queue)
 ) else
 (appL 48 a0.granted [a1]).bind fun _l6 =>
 some (S48.mk (a0.granted ++ [a1]) a0.queue)
set_option maxRecDepth 100000 in
set_option maxHeartbeats 4000000 in
theorem p21 (N : Nat) (a0 : S48) (a1 : S29) (r : S48) (h : d21 N a0 a1 = some r) : FunM Try.prog 21 [.ptr 1000 0 0, .agg [.i a1.Tx, .d (.lit (.string a1.Table)), .d (.lit (.string a1.Key)), .i a1.Mode]] [(1000, some (.box [.ref 25000 0 a0.granted.length, .ref 25001 0 a0.queue.length])), (25000, R29 a0.granted), (25001, R29 a0.queue)] [1000] (.tup []) ([(1000, (.box [.ref 25000 0 r.granted.length, .ref 25001 0 r.queue.length])), (25000, (.arr 29 4 (r.granted.map cS29))), (25001, (.arr 29 4 (r.queue.map cS29)))]) := by
 unfold d21 at h
 refine FunM.enter 32 [(0, .ptr 1000 0 0), (1, .agg [.i a1.Tx, .d (.lit (.string a1.Table)), .d (.lit (.string a1.Key)), .i a1.Mode])] Try.func21 rfl (of_decide_eq_true rfl) rfl rfl ?_
 refine AW.seqR ?_
 refine Chain.runK [] 1 fun K hK => ?_; simp; refine hK _ _ ?_; clear hK K
 refine Chain.sub (S' := mk 32 [1000] [(0, .ptr 1000 0 0), (3, .ptr 3 0 0)] [(3, some (.box [.i a1.Tx, .d (.lit (.string a1.Table)), .d (.lit (.string a1.Key)), .i a1.Mode])), (1000, some (.box [.ref 25000 0 a0.granted.length, .ref 25001 0 a0.queue.length])), (25000, R29 a0.granted), (25001, R29 a0.queue)]) Sub.tt ?_
 refine Chain.nil ?_
 refine AW.seq ?_
 refine AW.seqR ?_
 refine Chain.runK [] 5 fun K hK => ?_; simp; refine hK _ _ ?_; clear hK K
 refine Chain.sub (S' := mk 32 [1000] [(0, .ptr 1000 0 0), (3, .ptr 3 0 0), (8, .ref 25000 0 a0.granted.length), (9, .fn (.func 44) [.ptr 3 0 0])] [(3, some (.box [.i a1.Tx, .d (.lit (.string a1.Table)), .d (.lit (.string a1.Key)), .i a1.Mode])), (1000, some (.box [.ref 25000 0 a0.granted.length, .ref 25001 0 a0.queue.length])), (25000, R29 a0.granted), (25001, R29 a0.queue)]) Sub.tt ?_
 replace h := bsome h; obtain ⟨r1, hr1, h⟩ := h
 refine Chain.callL (d := 10) (p37 N a0.granted 44 [.pim [.lit (.int .i64 a1.Tx), .lit (.string a1.Table), .lit (.string a1.Key), .lit (.int .i64 a1.Mode)]] (fun b0 => d44 N b0 a1) ent44 (fun b0 r h => p44 N b0 a1 r h) r1 hr1) (by simp) rfl rfl (by simp <;> rfl) (by simp <;> rfl) ent37 (by simp <;> rfl) ?_
 refine Chain.sub (S' := mk 32 [1000] [(0, .ptr 1000 0 0), (3, .ptr 3 0 0), (8, .ref 25000 0 a0.granted.length), (9, .fn (.func 44) [.ptr 3 0 0]), (10, .i r1)] [(3, some (.box [.i a1.Tx, .d (.lit (.string a1.Table)), .d (.lit (.string a1.Key)), .i a1.Mode])), (1000, some (.box [.ref 25000 0 a0.granted.length, .ref 25001 0 a0.queue.length])), (25000, R29 a0.granted), (25001, R29 a0.queue)]) (by simp; exact Sub.table (by simp) (by simp)) ?_
 refine Chain.runK [] 1 fun K hK => ?_; simp; refine hK _ _ ?_; clear hK K
 refine Chain.sub (S' := mk 32 [1000] [(0, .ptr 1000 0 0), (3, .ptr 3 0 0), (4, .i r1)] [(3, some (.box [.i a1.Tx, .d (.lit (.string a1.Table)), .d (.lit (.string a1.Key)), .i a1.Mode])), (1000, some (.box [.ref 25000 0 a0.granted.length, .ref 25001 0 a0.queue.length])), (25000, R29 a0.granted), (25001, R29 a0.queue)]) Sub.tt ?_
 refine Chain.nil ?_
 refine AW.seqR ?_
 refine Chain.runK [] 2 fun K hK => ?_; simp; refine hK _ _ ?_; clear hK K
 refine Chain.sub (S' := mk 32 [1000] [(0, .ptr 1000 0 0), (3, .ptr 3 0 0), (4, .i r1), (12, .b (decide (r1 ≥ 0)))] [(3, some (.box [.i a1.Tx, .d (.lit (.string a1.Table)), .d (.lit (.string a1.Key)), .i a1.Mode])), (1000, some (.box [.ref 25000 0 a0.granted.length, .ref 25001 0 a0.queue.length])), (25000, R29 a0.granted), (25001, R29 a0.queue)]) Sub.tt ?_
 refine Chain.nil ?_
 replace h := isome h; rcases h with ⟨c2, h⟩ | ⟨c2, h⟩
 ·have c2_ : decide (r1 ≥ 0) = true := decide_eq_true c2
  refine AW.condT (b := decide (r1 ≥ 0)) rfl c2_ ?_
  refine AW.sub (Sub.bool 12 (b := decide (r1 ≥ 0)) rfl c2_) ?_
  refine AW.sub (S' := mk 32 [1000] [(0, .ptr 1000 0 0), (3, .ptr 3 0 0), (4, .i r1), (12, .b true)] [(3, some (.box [.i a1.Tx, .d (.lit (.string a1.Table)), .d (.lit (.string a1.Key)), .i a1.Mode])), (1000, some (.box [.ref 25000 0 a0.granted.length, .ref 25001 0 a0.queue.length])), (25000, R29 a0.granted), (25001, R29 a0.queue)]) (by simp; exact Sub.table (by simp) (by simp)) ?_
  replace h := bsome h; obtain ⟨x3, hx3, h⟩ := h
  obtain ⟨k4, hx3k, hx3, hx3a, hx3b⟩ := idx_some hx3
  refine AW.seqT 9 (by kernel_rfl) (by kernel_rfl) fun K hK => ?_; simp [hx3k, hx3a, hx3b]; refine hK _ _ ?_; clear hK K
  refine Chain.sub (S' := mk 32 [1000] [(19, .i a1.Mode), (21, .ptr 25000 k4 3)] [(1000, some (.box [.ref 25000 0 a0.granted.length, .ref 25001 0 a0.queue.length])), (25000, R29 a0.granted), (25001, R29 a0.queue)]) Sub.tt ?_
  replace h := lsome h; obtain ⟨l5, gl5, h⟩ := h
  obtain ⟨hl5, hl5n⟩ := setI_some cS29 gl5 hx3k
  replace hl5 : (a0.granted.map cS29).set k4 [.lit (.int .i64 x3.Tx), .lit (.string x3.Table), .lit (.string x3.Key), .lit (.int .i64 a1.Mode)] = l5.map cS29 := hl5
  clear gl5
  refine Chain.runK [] 1 fun K hK => ?_; simp [hx3, hl5]; refine hK _ _ ?_; clear hK K
  refine Chain.sub (S' := mk 32 [1000] [] [(1000, some (.box [.ref 25000 0 l5.length, .ref 25001 0 a0.queue.length])), (25000, R29 l5), (25001, R29 a0.queue)]) (Sub.table (by simp) (by simp [hl5n])) ?_
  refine Chain.nil ?_
  refine AW.ret ?_
  cases h
  refine thenQ_pass (by simp) ?_
  exact FinF.ret (by simp) (by simp)
 ·have c2_ : decide (r1 ≥ 0) = false := decide_eq_false c2
  refine AW.condF (b := decide (r1 ≥ 0)) rfl c2_ ?_
  refine AW.sub (Sub.bool 12 (b := decide (r1 ≥ 0)) rfl c2_) ?_
  refine AW.sub (S' := mk 32 [1000] [(0, .ptr 1000 0 0), (3, .ptr 3 0 0), (4, .i r1), (12, .b false)] [(3, some (.box [.i a1.Tx, .d (.lit (.string a1.Table)), .d (.lit (.string a1.Key)), .i a1.Mode])), (1000, some (.box [.ref 25000 0 a0.granted.length, .ref 25001 0 a0.queue.length])), (25000, R29 a0.granted), (25001, R29 a0.queue)]) (by simp; exact Sub.table (by simp) (by simp)) ?_
  refine AW.skip ?_
  refine thenQ_normal ?_
  replace h := bsome h; obtain ⟨l6, hl6, h⟩ := h
  obtain ⟨hl6a, hl6⟩ := appL_some hl6
  subst hl6
  try simp only [List.length_cons, List.length_nil, Nat.zero_add] at hl6a
  refine AW.lastAnyS [[], [], [1], [1, 2], [1, 2, 3], [], [5], [1, 2, 3, 4, 5, 6], [0, 1, 2, 3, 4, 5, 6, 7], [0, 1, 2, 3, 4, 5, 6, 7, 8], [0, 1, 2, 3, 4, 5, 6, 7, 8, 9]] (fun (b : Nat → Bool) => mk 32 [1000] [(0, .ptr 1000 0 0), (3, .ptr 3 0 0), (22, (if b 0 then .ptr 1000 0 0 else .junk)), (23, (if b 1 then .ptr 1000 0 0 else .junk)), (24, (if b 2 then .ptr 1000 0 0 else .junk)), (25, (if b 3 then .ptr 1000 0 0 else .junk)), (26, (if b 7 then .junk else (if b 4 then .ref 25000 0 a0.granted.length else .junk))), (27, (if b 5 then .agg [.i a1.Tx, .d (.lit (.string a1.Table)), .d (.lit (.string a1.Key)), .i a1.Mode] else .junk)), (28, (if b 6 then .d (.sl ([a1].map cS29)) else .junk)), (29, (if b 7 then .ref 25000 0 ((a0.granted ++ [a1]).length) else .junk)), (30, (if b 8 then .ptr 1000 0 0 else .junk)), (31, (if b 9 then .ptr 1000 0 0 else .junk))] [(3, some (.box [.i a1.Tx, .d (.lit (.string a1.Table)), .d (.lit (.string a1.Key)), .i a1.Mode])), (1000, (if b 10 then some (.box [.ref 25000 0 ((a0.granted ++ [a1]).length), .ref 25001 0 a0.queue.length]) else (if b 7 then some (.box [.hole, .ref 25001 0 a0.queue.length]) else some (.box [.ref 25000 0 a0.granted.length, .ref 25001 0 a0.queue.length])))), (25000, (if b 7 then R29 (a0.granted ++ [a1]) else R29 a0.granted)), (25001, R29 a0.queue)]) (mk 32 [1000] [] [(1000, some (.box [.ref 25000 0 ((a0.granted ++ [a1]).length), .ref 25001 0 a0.queue.length])), (25000, R29 (a0.granted ++ [a1])), (25001, R29 a0.queue)]) (by kernel_rfl) (by kernel_rfl) Sub.tt (Steps.cons ?_ (Steps.cons ?_ (Steps.cons ?_ (Steps.cons ?_ (Steps.cons ?_ (Steps.cons ?_ (Steps.cons ?_ (Steps.cons ?_ (Steps.cons ?_ (Steps.cons ?_ (Steps.cons ?_ (Steps.nil)))))))))))) ?_ ?_
  ·intro b h0 ha hd
   have f8 : b 8 = false := hd 8 (by decide)
   have f9 : b 9 = false := hd 9 (by decide)
   have f10 : b 10 = false := hd 10 (by decide)
   refine Chain.runK [28] 1 fun K hK => ?_; simp [h0, f8, f9, f10]; refine hK _ _ ?_; clear hK K
   exact Chain.nil (Sub.table (by simp [f8, f9]) (by simp [f10]))
  ·intro b h0 ha hd
   have f2 : b 2 = false := hd 2 (by decide)
   have f3 : b 3 = false := hd 3 (by decide)
   have f4 : b 4 = false := hd 4 (by decide)
   have f7 : b 7 = false := hd 7 (by decide)
   have f8 : b 8 = false := hd 8 (by decide)
   have f9 : b 9 = false := hd 9 (by decide)
   have f10 : b 10 = false := hd 10 (by decide)
   refine Chain.runK [28] 1 fun K hK => ?_; simp [h0, f2, f3, f4, f7, f8, f9, f10]; refine hK _ _ ?_; clear hK K
   exact Chain.nil (Sub.table (by simp [f2, f3, f4, f7, f8, f9]) (by simp [f7, f10]))
  ·intro b h0 ha hd
   have t1 : b 1 = true := ha 1 (by decide)
   have f3 : b 3 = false := hd 3 (by decide)
   have f4 : b 4 = false := hd 4 (by decide)
   have f7 : b 7 = false := hd 7 (by decide)
   have f8 : b 8 = false := hd 8 (by decide)
   have f9 : b 9 = false := hd 9 (by decide)
   have f10 : b 10 = false := hd 10 (by decide)
   refine Chain.runK [28] 1 fun K hK => ?_; simp [h0, t1, f3, f4, f7, f8, f9, f10]; refine hK _ _ ?_; clear hK K
   exact Chain.nil (Sub.table (by simp [t1, f3, f4, f7, f8, f9]) (by simp [f7, f10]))
  ·intro b h0 ha hd
   have t1 : b 1 = true := ha 1 (by decide)
   have t2 : b 2 = true := ha 2 (by decide)
   have f4 : b 4 = false := hd 4 (by decide)
   have f7 : b 7 = false := hd 7 (by decide)
   have f8 : b 8 = false := hd 8 (by decide)
   have f9 : b 9 = false := hd 9 (by decide)
   have f10 : b 10 = false := hd 10 (by decide)
   refine Chain.runK [28] 1 fun K hK => ?_; simp [h0, t1, t2, f4, f7, f8, f9, f10]; refine hK _ _ ?_; clear hK K
   exact Chain.nil (Sub.table (by simp [t1, t2, f4, f7, f8, f9]) (by simp [f7, f10]))
  ·intro b h0 ha hd
   have t1 : b 1 = true := ha 1 (by decide)
   have t2 : b 2 = true := ha 2 (by decide)
   have t3 : b 3 = true := ha 3 (by decide)
   have f7 : b 7 = false := hd 7 (by decide)
   have f8 : b 8 = false := hd 8 (by decide)
   have f9 : b 9 = false := hd 9 (by decide)
   have f10 : b 10 = false := hd 10 (by decide)
   refine Chain.runK [28] 1 fun K hK => ?_; simp [h0, t1, t2, t3, f7, f8, f9, f10]; refine hK _ _ ?_; clear hK K
   exact Chain.nil (Sub.table (by simp [t1, t2, t3, f7, f8, f9]) (by simp [f7, f10]))
  ·intro b h0 ha hd
   have f6 : b 6 = false := hd 6 (by decide)
   have f7 : b 7 = false := hd 7 (by decide)
   have f8 : b 8 = false := hd 8 (by decide)
   have f9 : b 9 = false := hd 9 (by decide)
   have f10 : b 10 = false := hd 10 (by decide)
   refine Chain.runK [28] 1 fun K hK => ?_; simp [h0, f6, f7, f8, f9, f10]; refine hK _ _ ?_; clear hK K
   exact Chain.nil (Sub.table (by simp [f6, f7, f8, f9]) (by simp [f7, f10]))
  ·intro b h0 ha hd
   have t5 : b 5 = true := ha 5 (by decide)
   have f7 : b 7 = false := hd 7 (by decide)
   have f8 : b 8 = false := hd 8 (by decide)
   have f9 : b 9 = false := hd 9 (by decide)
   have f10 : b 10 = false := hd 10 (by decide)
   refine Chain.runK [28] 1 fun K hK => ?_; simp [h0, t5, f7, f8, f9, f10]; refine hK _ _ ?_; clear hK K
   exact Chain.nil (Sub.table (by simp [t5, f7, f8, f9]) (by simp [f7, f10]))
  ·intro b h0 ha hd
   have t1 : b 1 = true := ha 1 (by decide)
   have t2 : b 2 = true := ha 2 (by decide)
   have t3 : b 3 = true := ha 3 (by decide)
   have t4 : b 4 = true := ha 4 (by decide)
   have t5 : b 5 = true := ha 5 (by decide)
   have t6 : b 6 = true := ha 6 (by decide)
   have f8 : b 8 = false := hd 8 (by decide)
   have f9 : b 9 = false := hd 9 (by decide)
   have f10 : b 10 = false := hd 10 (by decide)
   refine Chain.runK [28] 1 fun K hK => ?_; simp [h0, t1, t2, t3, t4, t5, t6, f8, f9, f10, hl6a]; refine hK _ _ ?_; clear hK K
   exact Chain.nil (Sub.table (by simp [t1, t2, t3, t5, t6, f8, f9]) (by simp [f10]))
  ·intro b h0 ha hd
   have t0 : b 0 = true := ha 0 (by decide)
   have t1 : b 1 = true := ha 1 (by decide)
   have t2 : b 2 = true := ha 2 (by decide)
   have t3 : b 3 = true := ha 3 (by decide)
   have t4 : b 4 = true := ha 4 (by decide)
   have t5 : b 5 = true := ha 5 (by decide)
   have t6 : b 6 = true := ha 6 (by decide)
   have t7 : b 7 = true := ha 7 (by decide)
   have f9 : b 9 = false := hd 9 (by decide)
   have f10 : b 10 = false := hd 10 (by decide)
   refine Chain.runK [28] 1 fun K hK => ?_; simp [h0, t0, t1, t2, t3, t5, t6, t7, f9, f10]; refine hK _ _ ?_; clear hK K
   exact Chain.nil (Sub.table (by simp [t0, t1, t2, t3, t5, t6, t7, f9]) (by simp [t7, f10]))
  ·intro b h0 ha hd
   have t0 : b 0 = true := ha 0 (by decide)
   have t1 : b 1 = true := ha 1 (by decide)
   have t2 : b 2 = true := ha 2 (by decide)
   have t3 : b 3 = true := ha 3 (by decide)
   have t4 : b 4 = true := ha 4 (by decide)
   have t5 : b 5 = true := ha 5 (by decide)
   have t6 : b 6 = true := ha 6 (by decide)
   have t7 : b 7 = true := ha 7 (by decide)
   have t8 : b 8 = true := ha 8 (by decide)
   have f10 : b 10 = false := hd 10 (by decide)
   refine Chain.runK [28] 1 fun K hK => ?_; simp [h0, t0, t1, t2, t3, t5, t6, t7, t8, f10]; refine hK _ _ ?_; clear hK K
   exact Chain.nil (Sub.table (by simp [t0, t1, t2, t3, t5, t6, t7, t8]) (by simp [t7, f10]))
  ·intro b h0 ha hd
   have t0 : b 0 = true := ha 0 (by decide)
   have t1 : b 1 = true := ha 1 (by decide)
   have t2 : b 2 = true := ha 2 (by decide)
   have t3 : b 3 = true := ha 3 (by decide)
   have t4 : b 4 = true := ha 4 (by decide)
   have t5 : b 5 = true := ha 5 (by decide)
   have t6 : b 6 = true := ha 6 (by decide)
   have t7 : b 7 = true := ha 7 (by decide)
   have t8 : b 8 = true := ha 8 (by decide)
   have t9 : b 9 = true := ha 9 (by decide)
   refine Chain.runK [28] 1 fun K hK => ?_; simp [h0, t0, t1, t2, t3, t5, t6, t7, t8, t9]; refine hK _ _ ?_; clear hK K
   exact Chain.nil (Sub.table (by simp [t0, t1, t2, t3, t5, t6, t7, t8, t9]) (by simp [t7]))
  ·intro b hb
   have t0 := hb 0 (by decide)
   have t1 := hb 1 (by decide)
   have t2 := hb 2 (by decide)
   have t3 := hb 3 (by decide)
   have t4 := hb 4 (by decide)
   have t5 := hb 5 (by decide)
   have t6 := hb 6 (by decide)
   have t7 := hb 7 (by decide)
   have t8 := hb 8 (by decide)
   have t9 := hb 9 (by decide)
   have t10 := hb 10 (by decide)
   exact Sub.table (by simp [t0, t1, t2, t3, t5, t6, t7, t8, t9]) (by simp [t7, t10])
  ·skip
   cases h
   exact FinF.normal (by simp) (by simp)

/-- slices.Clone[[]int,int] -/
def d45 (_ : Nat) (a0 : (List Int)) : Option (List Int) := if a0.length * 8 ≤ Rp.reach then some a0 else none
theorem p45 (N : Nat) (a0 : (List Int)) (r : (List Int)) (h : d45 N a0 = some r) : FunO Try.prog 45 [.d (.sl (a0.map (cI .i64)))] (.ref 0 0 r.length) (.arr 3 1 (r.map (cI .i64))) := by
 obtain ⟨hz, h⟩ := gsome h
 cases h
 refine FunO.enter 8 [(0, .d (.sl (a0.map (cI .i64))))] Try.func45 rfl (of_decide_eq_true rfl) rfl rfl ?_
 refine AW.goR [] 1 fun K hK => ?_; simp; refine hK _ ?_; clear hK K
 refine AW.seq ?_
 refine AW.seqR ?_
 refine Chain.runK [] 1 fun K hK => ?_; simp; refine hK _ _ ?_; clear hK K
 refine Chain.eqNilE (es := a0.map (cI .i64)) (by simp) rfl ty34 rfl (by simp) (by simp) fun b hb => ?_
 refine Chain.nil ?_
 cases b with
 | true =>
  have he : a0 = [] := by
   cases a0 with
   | nil => rfl
   | cons x xs => exact absurd (hb (by simp)) (by simp)
  subst he
  refine AW.condK fun K1 K2 k1 k2 => ?_; simp; refine k1 ?_; clear k1 k2 K1 K2
  refine AW.goR [] 1 fun K hK => ?_; simp; refine hK _ ?_; clear hK K
  refine AW.sub (Sub.nilOwn (t := 2) (id := 902) (T := 3) (n := 1) rfl rfl (by decide)) ?_
  refine AW.sub (S' := mk 8 [] [(2, .ref 902 0 0)] [(902, some (.arr 3 1 []))]) (by simp; exact Sub.table (by simp) (by simp)) ?_
  refine AW.ret ?_
  exact thenQ_pass (by simp) (FinO.ret (.ref 902 0 0) 902 (by simp) (by simp) (by simp) (by simp) rfl)
 | false =>
  refine AW.condK fun K1 K2 k1 k2 => ?_; simp; refine k2 ?_; clear k1 k2 K1 K2
  refine AW.skip ?_
  refine thenQ_normal ?_
  refine AW.goR [] 4 fun K hK => ?_; simp [hz]; refine hK _ ?_; clear hK K
  refine AW.sub (S' := mk 8 [] [(2, .ref 5 0 a0.length)] [(5, R3 a0)]) Sub.tt ?_
  refine AW.ret ?_
  exact FinO.ret (.ref 5 0 a0.length) 5 (by simp) (by simp) (by simp) (by simp) rfl

end Go.Proofs.Ytdiekinmoklonaa
