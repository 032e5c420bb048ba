/- Functions of the program as functional programs; the code computes them. -/
import Derived.Test.YtdiekinmoklonaaLk6
namespace Go.Proofs.Ytdiekinmoklonaa
open Go.Ab Go.Rp
attribute [-simp] List.all_eq_true Array.all_toList Array.all_eq_true

/-- (stemma/stemref5.Lock).Conflicts -/
def d46 (N : Nat) (a0 : S29) (a1 : S29) : Option Bool :=
 Option.bind (α := Bool) (
  if decide (a0.Table = a1.Table) = true then (
   if decide (a0.Key = a1.Key) = true then (
    if (a0.Tx != a1.Tx) then (
     (d57 N a0.Mode a1.Mode).bind fun r9 =>
     some (!r9)
    ) else
    some false
   ) else
   some false
  ) else
  some false
 ) fun (v5 : Bool) =>
 some v5
set_option maxRecDepth 100000 in
set_option maxHeartbeats 4000000 in
theorem p46 (N : Nat) (a0 : S29) (a1 : S29) (r : Bool) (h : d46 N a0 a1 = some r) : FunC Try.prog 46 [.agg [.i a0.Tx, .d (.lit (.string a0.Table)), .d (.lit (.string a0.Key)), .i a0.Mode], .agg [.i a1.Tx, .d (.lit (.string a1.Table)), .d (.lit (.string a1.Key)), .i a1.Mode]] (.b r) := by
 unfold d46 at h
 refine FunC.enter 32 [(0, .agg [.i a0.Tx, .d (.lit (.string a0.Table)), .d (.lit (.string a0.Key)), .i a0.Mode]), (1, .agg [.i a1.Tx, .d (.lit (.string a1.Table)), .d (.lit (.string a1.Key)), .i a1.Mode])] (by simp) Try.func46 rfl (of_decide_eq_true rfl) rfl rfl ?_
 refine AW.seqR ?_
 refine Chain.runK [] 3 fun K hK => ?_; simp; refine hK _ _ ?_; clear hK K
 refine Chain.sub (S' := mk 32 [] [(2, .ptr 2 0 0), (3, .ptr 3 0 0)] [(2, some (.box [.i a0.Tx, .d (.lit (.string a0.Table)), .d (.lit (.string a0.Key)), .i a0.Mode])), (3, some (.box [.i a1.Tx, .d (.lit (.string a1.Table)), .d (.lit (.string a1.Key)), .i a1.Mode]))]) Sub.tt ?_
 refine Chain.nil ?_
 replace h := bsome h; obtain ⟨v5, hj, h⟩ := h
 refine AW.cutR (mk 32 [] [(4, .b v5)] []) ?_ ?_
 ·clear h; have h := hj; clear hj
  refine Chain.runK [] 6 fun K hK => ?_; simp; refine hK _ _ ?_; clear hK K
  refine Chain.sub (S' := mk 32 [] [(2, .ptr 2 0 0), (3, .ptr 3 0 0), (10, .b (decide (a0.Table = a1.Table)))] [(2, some (.box [.i a0.Tx, .d (.lit (.string a0.Table)), .d (.lit (.string a0.Key)), .i a0.Mode])), (3, some (.box [.i a1.Tx, .d (.lit (.string a1.Table)), .d (.lit (.string a1.Key)), .i a1.Mode]))]) Sub.tt ?_
  replace h := isome h; rcases h with ⟨c6, h⟩ | ⟨c6, h⟩
  ·have c6_ : decide (a0.Table = a1.Table) = true := c6
   refine Chain.sub (Sub.bool 10 (b := decide (a0.Table = a1.Table)) rfl c6_) ?_
   refine Chain.sub (S' := mk 32 [] [(2, .ptr 2 0 0), (3, .ptr 3 0 0), (10, .b true)] [(2, some (.box [.i a0.Tx, .d (.lit (.string a0.Table)), .d (.lit (.string a0.Key)), .i a0.Mode])), (3, some (.box [.i a1.Tx, .d (.lit (.string a1.Table)), .d (.lit (.string a1.Key)), .i a1.Mode]))]) (by simp; exact Sub.table (by simp) (by simp)) ?_
   refine Chain.runK [] 7 fun K hK => ?_; simp; refine hK _ _ ?_; clear hK K
   refine Chain.sub (S' := mk 32 [] [(2, .ptr 2 0 0), (3, .ptr 3 0 0), (17, .b (decide (a0.Key = a1.Key)))] [(2, some (.box [.i a0.Tx, .d (.lit (.string a0.Table)), .d (.lit (.string a0.Key)), .i a0.Mode])), (3, some (.box [.i a1.Tx, .d (.lit (.string a1.Table)), .d (.lit (.string a1.Key)), .i a1.Mode]))]) Sub.tt ?_
   replace h := isome h; rcases h with ⟨c7, h⟩ | ⟨c7, h⟩
   ·have c7_ : decide (a0.Key = a1.Key) = true := c7
    refine Chain.sub (Sub.bool 17 (b := decide (a0.Key = a1.Key)) rfl c7_) ?_
    refine Chain.sub (S' := mk 32 [] [(2, .ptr 2 0 0), (3, .ptr 3 0 0), (17, .b true)] [(2, some (.box [.i a0.Tx, .d (.lit (.string a0.Table)), .d (.lit (.string a0.Key)), .i a0.Mode])), (3, some (.box [.i a1.Tx, .d (.lit (.string a1.Table)), .d (.lit (.string a1.Key)), .i a1.Mode]))]) (by simp; exact Sub.table (by simp) (by simp)) ?_
    refine Chain.runK [] 7 fun K hK => ?_; simp; refine hK _ _ ?_; clear hK K
    refine Chain.sub (S' := mk 32 [] [(2, .ptr 2 0 0), (3, .ptr 3 0 0), (24, .b (a0.Tx != a1.Tx))] [(2, some (.box [.i a0.Tx, .d (.lit (.string a0.Table)), .d (.lit (.string a0.Key)), .i a0.Mode])), (3, some (.box [.i a1.Tx, .d (.lit (.string a1.Table)), .d (.lit (.string a1.Key)), .i a1.Mode]))]) Sub.tt ?_
    replace h := isome h; rcases h with ⟨c8, h⟩ | ⟨c8, h⟩
    ·have c8_ : (a0.Tx != a1.Tx) = true := c8
     refine Chain.sub (Sub.bool 24 (b := (a0.Tx != a1.Tx)) rfl c8_) ?_
     refine Chain.sub (S' := mk 32 [] [(2, .ptr 2 0 0), (3, .ptr 3 0 0), (24, .b true)] [(2, some (.box [.i a0.Tx, .d (.lit (.string a0.Table)), .d (.lit (.string a0.Key)), .i a0.Mode])), (3, some (.box [.i a1.Tx, .d (.lit (.string a1.Table)), .d (.lit (.string a1.Key)), .i a1.Mode]))]) (by simp; exact Sub.table (by simp) (by simp)) ?_
     refine Chain.runK [] 4 fun K hK => ?_; simp; refine hK _ _ ?_; clear hK K
     refine Chain.sub (S' := mk 32 [] [(24, .b true), (26, .i a0.Mode), (28, .i a1.Mode)] []) Sub.tt ?_
     replace h := bsome h; obtain ⟨r9, hr9, h⟩ := h
     refine Chain.callL (d := 29) (p57 N a0.Mode a1.Mode r9 hr9) (by simp) rfl rfl (by simp <;> rfl) (by simp <;> rfl) ent57 (by simp <;> rfl) ?_
     refine Chain.sub (S' := mk 32 [] [(24, .b true), (26, .i a0.Mode), (28, .i a1.Mode), (29, .b r9)] []) (by simp; exact Sub.table (by simp) (by simp)) ?_
     refine Chain.runK [] 3 fun K hK => ?_; simp; refine hK _ _ ?_; clear hK K
     refine Chain.sub (S' := mk 32 [] [(4, .b (!r9))] []) Sub.tt ?_
     cases h
     exact Chain.nil Sub.tt
    ·have c8_ : (a0.Tx != a1.Tx) = false := Bool.eq_false_iff.2 c8
     refine Chain.sub (Sub.bool 24 (b := (a0.Tx != a1.Tx)) rfl c8_) ?_
     refine Chain.sub (S' := mk 32 [] [(2, .ptr 2 0 0), (3, .ptr 3 0 0), (24, .b false)] [(2, some (.box [.i a0.Tx, .d (.lit (.string a0.Table)), .d (.lit (.string a0.Key)), .i a0.Mode])), (3, some (.box [.i a1.Tx, .d (.lit (.string a1.Table)), .d (.lit (.string a1.Key)), .i a1.Mode]))]) (by simp; exact Sub.table (by simp) (by simp)) ?_
     refine Chain.runK [] 8 fun K hK => ?_; simp; refine hK _ _ ?_; clear hK K
     refine Chain.sub (S' := mk 32 [] [(4, .b false)] []) Sub.tt ?_
     cases h
     exact Chain.nil Sub.tt
   ·have c7_ : decide (a0.Key = a1.Key) = false := Bool.eq_false_iff.2 c7
    refine Chain.sub (Sub.bool 17 (b := decide (a0.Key = a1.Key)) rfl c7_) ?_
    refine Chain.sub (S' := mk 32 [] [(2, .ptr 2 0 0), (3, .ptr 3 0 0), (17, .b false)] [(2, some (.box [.i a0.Tx, .d (.lit (.string a0.Table)), .d (.lit (.string a0.Key)), .i a0.Mode])), (3, some (.box [.i a1.Tx, .d (.lit (.string a1.Table)), .d (.lit (.string a1.Key)), .i a1.Mode]))]) (by simp; exact Sub.table (by simp) (by simp)) ?_
    refine Chain.runK [] 15 fun K hK => ?_; simp; refine hK _ _ ?_; clear hK K
    refine Chain.sub (S' := mk 32 [] [(4, .b false)] []) Sub.tt ?_
    cases h
    exact Chain.nil Sub.tt
  ·have c6_ : decide (a0.Table = a1.Table) = false := Bool.eq_false_iff.2 c6
   refine Chain.sub (Sub.bool 10 (b := decide (a0.Table = a1.Table)) rfl c6_) ?_
   refine Chain.sub (S' := mk 32 [] [(2, .ptr 2 0 0), (3, .ptr 3 0 0), (10, .b false)] [(2, some (.box [.i a0.Tx, .d (.lit (.string a0.Table)), .d (.lit (.string a0.Key)), .i a0.Mode])), (3, some (.box [.i a1.Tx, .d (.lit (.string a1.Table)), .d (.lit (.string a1.Key)), .i a1.Mode]))]) (by simp; exact Sub.table (by simp) (by simp)) ?_
   refine Chain.runK [] 22 fun K hK => ?_; simp; refine hK _ _ ?_; clear hK K
   refine Chain.sub (S' := mk 32 [] [(4, .b false)] []) Sub.tt ?_
   cases h
   exact Chain.nil Sub.tt
 ·clear hj
  refine AW.ret ?_
  cases h
  exact FinC.ret (by simp) (by simp)

/-- (*stemma/stemref5.LockTable).Blockers -/
def d27 (N : Nat) (a0 : S33) (a1 : S29) (a2 : Int) : Option (List Int) :=
 (appL 48 ([] : List S29) a0.Granted).bind fun _l1 =>
 (natI a2 a0.Queue.length).bind fun n2 =>
 letv (a0.Queue.take n2) fun l3 =>
 (appL 48 (([] : List S29) ++ a0.Granted) l3).bind fun _l4 =>
 letv ((([] : List S29) ++ a0.Granted) ++ l3) fun l5 =>
 Option.bind (α := List (Int × Bool)) (
  iterN (σ := ((List (Int × Bool)) × Int)) (ρ := List (Int × Bool)) (fun ((m16, v17) : ((List (Int × Bool)) × Int)) =>
   if v17 < (((([] : List S29) ++ a0.Granted) ++ l3).length : Int) then (
    (idx l5 v17).bind fun x44 =>
    Option.bind (α := Bool) (
     letv ((mget m16 x44.Tx).getD false) fun v50 =>
     if v50 = true then (
      some true
     ) else
     (d46 N a1 x44).bind fun r52 =>
     some r52
    ) fun (v49 : Bool) =>
    (chkI (v17 + 1)).bind fun v53 =>
    some (.inl ((mput m16 x44.Tx v49), v53))
   ) else
   some (.inr m16)
  ) N (([] : List (Int × Bool)), 0)
 ) fun (m42 : List (Int × Bool)) =>
 Option.bind (α := List Int) (
  iterN (σ := ((List Int) × Int)) (ρ := List Int) (fun ((l60, v61) : ((List Int) × Int)) =>
   if v61 < 20 then (
    letv ((mget m42 v61).getD false) fun v78 =>
    if v78 = true then (
     (appL 8 l60 [v61]).bind fun _l80 =>
     (chkI (v61 + 1)).bind fun v81 =>
     some (.inl ((l60 ++ [v61]), v81))
    ) else
    (chkI (v61 + 1)).bind fun v82 =>
    some (.inl (l60, v82))
   ) else
   some (.inr l60)
  ) N (([] : List Int), 0)
 ) fun (l76 : List Int) =>
 some l76
set_option maxRecDepth 100000 in
set_option maxHeartbeats 4000000 in
theorem p27 (N : Nat) (a0 : S33) (a1 : S29) (a2 : Int) (r : (List Int)) (h : d27 N a0 a1 a2 = some r) : FunO Try.prog 27 [.d (.pim [.sl (a0.Granted.map cS29), .sl (a0.Queue.map cS29)]), .agg [.d (.lit (.int .i64 a1.Tx)), .d (.lit (.string a1.Table)), .d (.lit (.string a1.Key)), .d (.lit (.int .i64 a1.Mode))], .d (.lit (.int .i64 a2))] (.ref 0 0 r.length) (.arr 3 1 (r.map (cI .i64))) := by
 unfold d27 at h
 refine FunO.enter 56 [(0, .d (.pim [.sl (a0.Granted.map cS29), .sl (a0.Queue.map cS29)])), (1, .agg [.i a1.Tx, .d (.lit (.string a1.Table)), .d (.lit (.string a1.Key)), .i a1.Mode]), (2, .i a2)] Try.func27 rfl (of_decide_eq_true rfl) rfl rfl ?_
 refine AW.seqR ?_
 refine Chain.runK [] 2 fun K hK => ?_; simp; refine hK _ _ ?_; clear hK K
 refine Chain.sub (S' := mk 56 [] [(0, .d (.pim [.sl (a0.Granted.map cS29), .sl (a0.Queue.map cS29)])), (2, .i a2), (4, .ptr 4 0 0)] [(4, some (.box [.i a1.Tx, .d (.lit (.string a1.Table)), .d (.lit (.string a1.Key)), .i a1.Mode]))]) Sub.tt ?_
 refine Chain.nil ?_
 refine AW.seqR ?_
 refine Chain.mmake (.int .i64) (by simp) rfl rfl (by simp) ?_
 refine Chain.sub (S' := mk 56 [] [(0, .d (.pim [.sl (a0.Granted.map cS29), .sl (a0.Queue.map cS29)])), (2, .i a2), (4, .ptr 4 0 0), (12, .mref 12)] [(4, some (.box [.i a1.Tx, .d (.lit (.string a1.Table)), .d (.lit (.string a1.Key)), .i a1.Mode])), (12, some (.mp (.int .i64) (encM MKey.ik vB ([] : List (Int × Bool)))))]) (by simp; exact Sub.table (by simp) (by simp [encM_nil])) ?_
 refine Chain.runK [] 1 fun K hK => ?_; simp; refine hK _ _ ?_; clear hK K
 refine Chain.sub (S' := mk 56 [] [(0, .d (.pim [.sl (a0.Granted.map cS29), .sl (a0.Queue.map cS29)])), (2, .i a2), (4, .ptr 4 0 0), (7, .mref 12)] [(4, some (.box [.i a1.Tx, .d (.lit (.string a1.Table)), .d (.lit (.string a1.Key)), .i a1.Mode])), (12, some (.mp (.int .i64) (encM MKey.ik vB ([] : List (Int × Bool)))))]) Sub.tt ?_
 refine Chain.nil ?_
 refine AW.seq ?_
 replace h := bsome h; obtain ⟨l1, hl1, h⟩ := h
 obtain ⟨hl1a, hl1⟩ := appL_some hl1
 subst hl1
 try simp only [List.length_nil, Nat.zero_add] at hl1a
 replace h := bsome h; obtain ⟨n2, gn2, h⟩ := h
 obtain ⟨hn2a, hn2⟩ := natI_some gn2
 clear gn2
 subst hn2a
 replace h := lsome h; obtain ⟨l3, gl3, h⟩ := h
 have hl3 : ((a0.Queue.map cS29).take n2) = l3.map cS29 := by rw [← gl3]; simp
 clear gl3
 replace h := bsome h; obtain ⟨l4, hl4, h⟩ := h
 obtain ⟨hl4a, hl4⟩ := appL_some hl4
 subst hl4
 try simp only [List.length_append, List.length_nil, Nat.zero_add] at hl4a
 refine AW.seqAnyS [[], [], [1], [1, 2], [1, 2, 3], [0, 1, 2, 3, 4], [], [6], [6, 7], [6, 7, 8], [], [6, 7, 8, 9, 10], [0, 1, 2, 3, 4, 5, 6, 7, 8, 9, 10, 11], [0, 1, 2, 3, 4, 5, 6, 7, 8, 9, 10, 11, 12], []] (fun (b : Nat → Bool) => mk 56 [] [(0, .d (.pim [.sl (a0.Granted.map cS29), .sl (a0.Queue.map cS29)])), (2, .i (n2 : Int)), (4, .ptr 4 0 0), (7, .mref 12), (13, (if b 5 then .junk else (if b 0 then .ref 13 0 (([] : List S29).length) else .junk))), (14, (if b 1 then .d (.pim [.sl (a0.Granted.map cS29), .sl (a0.Queue.map cS29)]) else .junk)), (15, (if b 2 then .d (.pim [.sl (a0.Granted.map cS29), .sl (a0.Queue.map cS29)]) else .junk)), (16, (if b 3 then .d (.pim [.sl (a0.Granted.map cS29), .sl (a0.Queue.map cS29)]) else .junk)), (17, (if b 4 then .d (.sl (a0.Granted.map cS29)) else .junk)), (18, (if b 12 then .junk else (if b 5 then .ref 13 0 ((([] : List S29) ++ a0.Granted).length) else .junk))), (19, (if b 6 then .d (.pim [.sl (a0.Granted.map cS29), .sl (a0.Queue.map cS29)]) else .junk)), (20, (if b 7 then .d (.pim [.sl (a0.Granted.map cS29), .sl (a0.Queue.map cS29)]) else .junk)), (21, (if b 8 then .d (.pim [.sl (a0.Queue.map cS29)]) else .junk)), (22, (if b 9 then .d (.sl (a0.Queue.map cS29)) else .junk)), (23, (if b 10 then .i (n2 : Int) else .junk)), (24, (if b 11 then .d (.sl (l3.map cS29)) else .junk)), (25, (if b 12 then .ref 13 0 (((([] : List S29) ++ a0.Granted) ++ l3).length) else .junk)), (26, (if b 13 then .i (((([] : List S29) ++ a0.Granted) ++ l3).length : Int) else .junk)), (27, (if b 14 then .i 0 else .junk))] [(4, some (.box [.i a1.Tx, .d (.lit (.string a1.Table)), .d (.lit (.string a1.Key)), .i a1.Mode])), (12, some (.mp (.int .i64) (encM MKey.ik vB ([] : List (Int × Bool))))), (13, (if b 12 then R37 ((([] : List S29) ++ a0.Granted) ++ l3) else (if b 5 then R37 (([] : List S29) ++ a0.Granted) else (if b 0 then R37 ([] : List S29) else none))))]) (mk 56 [] [(4, .ptr 4 0 0), (7, .mref 12), (25, .ref 13 0 (((([] : List S29) ++ a0.Granted) ++ l3).length)), (26, .i (((([] : List S29) ++ a0.Granted) ++ l3).length : Int)), (27, .i 0)] [(4, some (.box [.i a1.Tx, .d (.lit (.string a1.Table)), .d (.lit (.string a1.Key)), .i a1.Mode])), (12, some (.mp (.int .i64) (encM MKey.ik vB ([] : List (Int × Bool))))), (13, R37 ((([] : List S29) ++ a0.Granted) ++ l3))]) (by kernel_rfl) (by kernel_rfl) Sub.tt (Steps.cons ?_ (Steps.cons ?_ (Steps.cons ?_ (Steps.cons ?_ (Steps.cons ?_ (Steps.cons ?_ (Steps.cons ?_ (Steps.cons ?_ (Steps.cons ?_ (Steps.cons ?_ (Steps.cons ?_ (Steps.cons ?_ (Steps.cons ?_ (Steps.cons ?_ (Steps.cons ?_ (Steps.nil)))))))))))))))) ?_ ?_
 ·intro b h0 ha hd
  have f5 : b 5 = false := hd 5 (by decide)
  have f12 : b 12 = false := hd 12 (by decide)
  have f13 : b 13 = false := hd 13 (by decide)
  refine Chain.runK [] 1 fun K hK => ?_; simp [h0, f5, f12, f13]; refine hK _ _ ?_; clear hK K
  exact Chain.nil (Sub.table (by simp [f5, f12, f13]) (by simp [f5, f12]))
 ·intro b h0 ha hd
  have f2 : b 2 = false := hd 2 (by decide)
  have f3 : b 3 = false := hd 3 (by decide)
  have f4 : b 4 = false := hd 4 (by decide)
  have f5 : b 5 = false := hd 5 (by decide)
  have f12 : b 12 = false := hd 12 (by decide)
  have f13 : b 13 = false := hd 13 (by decide)
  refine Chain.runK [] 1 fun K hK => ?_; simp [h0, f2, f3, f4, f5, f12, f13]; refine hK _ _ ?_; clear hK K
  exact Chain.nil (Sub.table (by simp [f2, f3, f4, f5, f12, f13]) (by simp [f5, f12]))
 ·intro b h0 ha hd
  have t1 : b 1 = true := ha 1 (by decide)
  have f3 : b 3 = false := hd 3 (by decide)
  have f4 : b 4 = false := hd 4 (by decide)
  have f5 : b 5 = false := hd 5 (by decide)
  have f12 : b 12 = false := hd 12 (by decide)
  have f13 : b 13 = false := hd 13 (by decide)
  refine Chain.runK [] 1 fun K hK => ?_; simp [h0, t1, f3, f4, f5, f12, f13]; refine hK _ _ ?_; clear hK K
  exact Chain.nil (Sub.table (by simp [t1, f3, f4, f5, f12, f13]) (by simp [f5, f12]))
 ·intro b h0 ha hd
  have t1 : b 1 = true := ha 1 (by decide)
  have t2 : b 2 = true := ha 2 (by decide)
  have f4 : b 4 = false := hd 4 (by decide)
  have f5 : b 5 = false := hd 5 (by decide)
  have f12 : b 12 = false := hd 12 (by decide)
  have f13 : b 13 = false := hd 13 (by decide)
  refine Chain.runK [] 1 fun K hK => ?_; simp [h0, t1, t2, f4, f5, f12, f13]; refine hK _ _ ?_; clear hK K
  exact Chain.nil (Sub.table (by simp [t1, t2, f4, f5, f12, f13]) (by simp [f5, f12]))
 ·intro b h0 ha hd
  have t1 : b 1 = true := ha 1 (by decide)
  have t2 : b 2 = true := ha 2 (by decide)
  have t3 : b 3 = true := ha 3 (by decide)
  have f5 : b 5 = false := hd 5 (by decide)
  have f12 : b 12 = false := hd 12 (by decide)
  have f13 : b 13 = false := hd 13 (by decide)
  refine Chain.runK [] 1 fun K hK => ?_; simp [h0, t1, t2, t3, f5, f12, f13]; refine hK _ _ ?_; clear hK K
  exact Chain.nil (Sub.table (by simp [t1, t2, t3, f5, f12, f13]) (by simp [f5, f12]))
 ·intro b h0 ha hd
  have t0 : b 0 = true := ha 0 (by decide)
  have t1 : b 1 = true := ha 1 (by decide)
  have t2 : b 2 = true := ha 2 (by decide)
  have t3 : b 3 = true := ha 3 (by decide)
  have t4 : b 4 = true := ha 4 (by decide)
  have f12 : b 12 = false := hd 12 (by decide)
  have f13 : b 13 = false := hd 13 (by decide)
  refine Chain.runK [] 1 fun K hK => ?_; simp [h0, t0, t1, t2, t3, t4, f12, f13, hl1a]; refine hK _ _ ?_; clear hK K
  exact Chain.nil (Sub.table (by simp [t1, t2, t3, t4, f12, f13]) (by simp [f12]))
 ·intro b h0 ha hd
  have f7 : b 7 = false := hd 7 (by decide)
  have f8 : b 8 = false := hd 8 (by decide)
  have f9 : b 9 = false := hd 9 (by decide)
  have f11 : b 11 = false := hd 11 (by decide)
  have f12 : b 12 = false := hd 12 (by decide)
  have f13 : b 13 = false := hd 13 (by decide)
  refine Chain.runK [] 1 fun K hK => ?_; simp [h0, f7, f8, f9, f11, f12, f13]; refine hK _ _ ?_; clear hK K
  exact Chain.nil (Sub.table (by simp [f7, f8, f9, f11, f12, f13]) (by simp [f12]))
 ·intro b h0 ha hd
  have t6 : b 6 = true := ha 6 (by decide)
  have f8 : b 8 = false := hd 8 (by decide)
  have f9 : b 9 = false := hd 9 (by decide)
  have f11 : b 11 = false := hd 11 (by decide)
  have f12 : b 12 = false := hd 12 (by decide)
  have f13 : b 13 = false := hd 13 (by decide)
  refine Chain.runK [] 1 fun K hK => ?_; simp [h0, t6, f8, f9, f11, f12, f13]; refine hK _ _ ?_; clear hK K
  exact Chain.nil (Sub.table (by simp [t6, f8, f9, f11, f12, f13]) (by simp [f12]))
 ·intro b h0 ha hd
  have t6 : b 6 = true := ha 6 (by decide)
  have t7 : b 7 = true := ha 7 (by decide)
  have f9 : b 9 = false := hd 9 (by decide)
  have f11 : b 11 = false := hd 11 (by decide)
  have f12 : b 12 = false := hd 12 (by decide)
  have f13 : b 13 = false := hd 13 (by decide)
  refine Chain.runK [] 1 fun K hK => ?_; simp [h0, t6, t7, f9, f11, f12, f13]; refine hK _ _ ?_; clear hK K
  exact Chain.nil (Sub.table (by simp [t6, t7, f9, f11, f12, f13]) (by simp [f12]))
 ·intro b h0 ha hd
  have t6 : b 6 = true := ha 6 (by decide)
  have t7 : b 7 = true := ha 7 (by decide)
  have t8 : b 8 = true := ha 8 (by decide)
  have f11 : b 11 = false := hd 11 (by decide)
  have f12 : b 12 = false := hd 12 (by decide)
  have f13 : b 13 = false := hd 13 (by decide)
  refine Chain.runK [] 1 fun K hK => ?_; simp [h0, t6, t7, t8, f11, f12, f13]; refine hK _ _ ?_; clear hK K
  exact Chain.nil (Sub.table (by simp [t6, t7, t8, f11, f12, f13]) (by simp [f12]))
 ·intro b h0 ha hd
  have f11 : b 11 = false := hd 11 (by decide)
  have f12 : b 12 = false := hd 12 (by decide)
  have f13 : b 13 = false := hd 13 (by decide)
  refine Chain.runK [] 1 fun K hK => ?_; simp [h0, f11, f12, f13]; refine hK _ _ ?_; clear hK K
  exact Chain.nil (Sub.table (by simp [f11, f12, f13]) (by simp [f12]))
 ·intro b h0 ha hd
  have t6 : b 6 = true := ha 6 (by decide)
  have t7 : b 7 = true := ha 7 (by decide)
  have t8 : b 8 = true := ha 8 (by decide)
  have t9 : b 9 = true := ha 9 (by decide)
  have t10 : b 10 = true := ha 10 (by decide)
  have f12 : b 12 = false := hd 12 (by decide)
  have f13 : b 13 = false := hd 13 (by decide)
  refine Chain.runK [] 1 fun K hK => ?_; simp [h0, t6, t7, t8, t9, t10, f12, f13, hn2, hl3]; refine hK _ _ ?_; clear hK K
  exact Chain.nil (Sub.table (by simp [t6, t7, t8, t9, t10, f12, f13]) (by simp [f12]))
 ·intro b h0 ha hd
  have t0 : b 0 = true := ha 0 (by decide)
  have t1 : b 1 = true := ha 1 (by decide)
  have t2 : b 2 = true := ha 2 (by decide)
  have t3 : b 3 = true := ha 3 (by decide)
  have t4 : b 4 = true := ha 4 (by decide)
  have t5 : b 5 = true := ha 5 (by decide)
  have t6 : b 6 = true := ha 6 (by decide)
  have t7 : b 7 = true := ha 7 (by decide)
  have t8 : b 8 = true := ha 8 (by decide)
  have t9 : b 9 = true := ha 9 (by decide)
  have t10 : b 10 = true := ha 10 (by decide)
  have t11 : b 11 = true := ha 11 (by decide)
  have f13 : b 13 = false := hd 13 (by decide)
  refine Chain.runK [] 1 fun K hK => ?_; simp [h0, t1, t2, t3, t4, t5, t6, t7, t8, t9, t10, t11, f13, hl4a]; refine hK _ _ ?_; clear hK K
  exact Chain.nil (Sub.table (by simp [t1, t2, t3, t4, t5, t6, t7, t8, t9, t10, t11, f13]) (by simp))
 ·intro b h0 ha hd
  have t0 : b 0 = true := ha 0 (by decide)
  have t1 : b 1 = true := ha 1 (by decide)
  have t2 : b 2 = true := ha 2 (by decide)
  have t3 : b 3 = true := ha 3 (by decide)
  have t4 : b 4 = true := ha 4 (by decide)
  have t5 : b 5 = true := ha 5 (by decide)
  have t6 : b 6 = true := ha 6 (by decide)
  have t7 : b 7 = true := ha 7 (by decide)
  have t8 : b 8 = true := ha 8 (by decide)
  have t9 : b 9 = true := ha 9 (by decide)
  have t10 : b 10 = true := ha 10 (by decide)
  have t11 : b 11 = true := ha 11 (by decide)
  have t12 : b 12 = true := ha 12 (by decide)
  refine Chain.runK [] 1 fun K hK => ?_; simp [h0, t1, t2, t3, t4, t5, t6, t7, t8, t9, t10, t11, t12]; refine hK _ _ ?_; clear hK K
  exact Chain.nil (Sub.table (by simp [t1, t2, t3, t4, t5, t6, t7, t8, t9, t10, t11, t12]) (by simp [t12]))
 ·intro b h0 ha hd
  refine Chain.runK [] 1 fun K hK => ?_; simp [h0]; refine hK _ _ ?_; clear hK K
  exact Chain.nil (Sub.table (by simp) (by simp))
 ·intro b hb
  have t0 := hb 0 (by decide)
  have t1 := hb 1 (by decide)
  have t2 := hb 2 (by decide)
  have t3 := hb 3 (by decide)
  have t4 := hb 4 (by decide)
  have t5 := hb 5 (by decide)
  have t6 := hb 6 (by decide)
  have t7 := hb 7 (by decide)
  have t8 := hb 8 (by decide)
  have t9 := hb 9 (by decide)
  have t10 := hb 10 (by decide)
  have t11 := hb 11 (by decide)
  have t12 := hb 12 (by decide)
  have t13 := hb 13 (by decide)
  have t14 := hb 14 (by decide)
  exact Sub.table (by simp [t1, t2, t3, t4, t5, t6, t7, t8, t9, t10, t11, t12, t13, t14]) (by simp [t12])
 ·skip
  replace h := lsome h; obtain ⟨l5, hl5, h⟩ := h
  refine AW.sub (S' := mk 56 [] [(4, .ptr 4 0 0), (7, .mref 12), (25, .ref 13 0 l5.length), (26, .i (((([] : List S29) ++ a0.Granted) ++ l3).length : Int)), (27, .i 0)] [(4, some (.box [.i a1.Tx, .d (.lit (.string a1.Table)), .d (.lit (.string a1.Key)), .i a1.Mode])), (12, some (.mp (.int .i64) (encM MKey.ik vB ([] : List (Int × Bool))))), (13, R37 l5)]) (by subst hl5; exact Sub.table (by simp) (by simp)) ?_
  refine AW.lastN (fun (m42 : List (Int × Bool)) => mk 56 [] [(7, .mref 12)] [(12, some (.mp (.int .i64) (encM MKey.ik vB m42)))]) h ?_ ?_ <;> clear h
  ·intro o h
   refine AW.block ?_
   refine AW.iter (fun ((m16, v17) : ((List (Int × Bool)) × Int)) => mk 56 [] [(4, .ptr 4 0 0), (7, .mref 12), (25, .ref 13 0 l5.length), (26, .i (((([] : List S29) ++ a0.Granted) ++ l3).length : Int)), (27, .i v17)] [(4, some (.box [.i a1.Tx, .d (.lit (.string a1.Table)), .d (.lit (.string a1.Key)), .i a1.Mode])), (12, some (.mp (.int .i64) (encM MKey.ik vB m16))), (13, R37 l5)]) h Sub.tt ?_
   clear h
   rintro ⟨m16, v17⟩ x h
   dsimp only at h ⊢
   refine AW.seqR ?_
   refine Chain.runK [] 1 fun K hK => ?_; simp; refine hK _ _ ?_; clear hK K
   refine Chain.sub (S' := mk 56 [] [(4, .ptr 4 0 0), (7, .mref 12), (25, .ref 13 0 l5.length), (26, .i (((([] : List S29) ++ a0.Granted) ++ l3).length : Int)), (27, .i v17), (28, .b (decide (v17 < (((([] : List S29) ++ a0.Granted) ++ l3).length : Int))))] [(4, some (.box [.i a1.Tx, .d (.lit (.string a1.Table)), .d (.lit (.string a1.Key)), .i a1.Mode])), (12, some (.mp (.int .i64) (encM MKey.ik vB m16))), (13, R37 l5)]) Sub.tt ?_
   refine Chain.nil ?_
   refine AW.seq ?_
   replace h := isome h; rcases h with ⟨c43, h⟩ | ⟨c43, h⟩
   ·have c43_ : decide (v17 < (((([] : List S29) ++ a0.Granted) ++ l3).length : Int)) = true := decide_eq_true c43
    refine AW.condT (b := decide (v17 < (((([] : List S29) ++ a0.Granted) ++ l3).length : Int))) rfl c43_ ?_
    refine AW.sub (Sub.bool 28 (b := decide (v17 < (((([] : List S29) ++ a0.Granted) ++ l3).length : Int))) rfl c43_) ?_
    refine AW.sub (S' := mk 56 [] [(4, .ptr 4 0 0), (7, .mref 12), (25, .ref 13 0 l5.length), (26, .i (((([] : List S29) ++ a0.Granted) ++ l3).length : Int)), (27, .i v17), (28, .b true)] [(4, some (.box [.i a1.Tx, .d (.lit (.string a1.Table)), .d (.lit (.string a1.Key)), .i a1.Mode])), (12, some (.mp (.int .i64) (encM MKey.ik vB m16))), (13, R37 l5)]) (by simp; exact Sub.table (by simp) (by simp)) ?_
    refine AW.skip ?_
    refine thenQ_normal ?_
    refine AW.seq ?_
    refine AW.block ?_
    refine AW.seqR ?_
    replace h := bsome h; obtain ⟨x44, hx44, h⟩ := h
    obtain ⟨k45, hx44k, hx44, hx44a, hx44b⟩ := idx_some hx44
    refine Chain.runK [] 4 fun K hK => ?_; simp [hx44, hx44k, hx44a, hx44b]; refine hK _ _ ?_; clear hK K
    refine Chain.sub (S' := mk 56 [] [(4, .ptr 4 0 0), (7, .mref 12), (9, .ptr 9 0 0), (25, .ref 13 0 l5.length), (26, .i (((([] : List S29) ++ a0.Granted) ++ l3).length : Int)), (27, .i v17)] [(4, some (.box [.i a1.Tx, .d (.lit (.string a1.Table)), .d (.lit (.string a1.Key)), .i a1.Mode])), (9, some (.box [.i x44.Tx, .d (.lit (.string x44.Table)), .d (.lit (.string x44.Key)), .i x44.Mode])), (12, some (.mp (.int .i64) (encM MKey.ik vB m16))), (13, R37 l5)]) Sub.tt ?_
    refine Chain.nil ?_
    replace h := bsome h; obtain ⟨v49, hj, h⟩ := h
    refine AW.regionQT 12 (by kernel_rfl) (by kernel_rfl) (Chain.cut (mk 56 [] [(4, .ptr 4 0 0), (7, .mref 12), (25, .ref 13 0 l5.length), (26, .i (((([] : List S29) ++ a0.Granted) ++ l3).length : Int)), (27, .i v17), (31, .mref 12), (33, .i x44.Tx), (42, .b v49)] [(4, some (.box [.i a1.Tx, .d (.lit (.string a1.Table)), .d (.lit (.string a1.Key)), .i a1.Mode])), (12, some (.mp (.int .i64) (encM MKey.ik vB m16))), (13, R37 l5)]) ?_ fun S' hS => ?_)
    ·simp only [List.take_succ_cons, List.take_zero]
     clear h; have h := hj; clear hj
     refine Chain.runQ 6 fun K hK => ?_; simp; refine hK _ _ ?_; clear hK K
     refine Chain.sub (S' := mk 56 [] [(4, .ptr 4 0 0), (7, .mref 12), (9, .ptr 9 0 0), (25, .ref 13 0 l5.length), (26, .i (((([] : List S29) ++ a0.Granted) ++ l3).length : Int)), (27, .i v17), (31, .mref 12), (33, .i x44.Tx), (34, .mref 12), (36, .i x44.Tx)] [(4, some (.box [.i a1.Tx, .d (.lit (.string a1.Table)), .d (.lit (.string a1.Key)), .i a1.Mode])), (9, some (.box [.i x44.Tx, .d (.lit (.string x44.Table)), .d (.lit (.string x44.Key)), .i x44.Mode])), (12, some (.mp (.int .i64) (encM MKey.ik vB m16))), (13, R37 l5)]) Sub.tt ?_
     replace h := lsome h; obtain ⟨v50, hv50, h⟩ := h
     refine Chain.lookE (vf := vB) ik_inj m16 x44.Tx false (by simp) rfl ty71 rfl ty3 ty4 rfl rfl rfl rfl rfl rfl rfl ?_
     refine Chain.sub (S' := mk 56 [] [(4, .ptr 4 0 0), (7, .mref 12), (9, .ptr 9 0 0), (25, .ref 13 0 l5.length), (26, .i (((([] : List S29) ++ a0.Granted) ++ l3).length : Int)), (27, .i v17), (31, .mref 12), (33, .i x44.Tx), (34, .mref 12), (36, .i x44.Tx), (37, .b v50)] [(4, some (.box [.i a1.Tx, .d (.lit (.string a1.Table)), .d (.lit (.string a1.Key)), .i a1.Mode])), (9, some (.box [.i x44.Tx, .d (.lit (.string x44.Table)), .d (.lit (.string x44.Key)), .i x44.Mode])), (12, some (.mp (.int .i64) (encM MKey.ik vB m16))), (13, R37 l5)]) (by simp [vB, hv50]; exact Sub.table (by simp) (by simp)) ?_
     refine Chain.runQ 1 fun K hK => ?_; simp; refine hK _ _ ?_; clear hK K
     refine Chain.sub (S' := mk 56 [] [(4, .ptr 4 0 0), (7, .mref 12), (9, .ptr 9 0 0), (25, .ref 13 0 l5.length), (26, .i (((([] : List S29) ++ a0.Granted) ++ l3).length : Int)), (27, .i v17), (31, .mref 12), (33, .i x44.Tx), (38, .b v50)] [(4, some (.box [.i a1.Tx, .d (.lit (.string a1.Table)), .d (.lit (.string a1.Key)), .i a1.Mode])), (9, some (.box [.i x44.Tx, .d (.lit (.string x44.Table)), .d (.lit (.string x44.Key)), .i x44.Mode])), (12, some (.mp (.int .i64) (encM MKey.ik vB m16))), (13, R37 l5)]) Sub.tt ?_
     replace h := isome h; rcases h with ⟨c51, h⟩ | ⟨c51, h⟩
     ·have c51_ : v50 = true := c51
      refine Chain.sub (Sub.bool 38 (b := v50) rfl c51_) ?_
      refine Chain.sub (S' := mk 56 [] [(4, .ptr 4 0 0), (7, .mref 12), (9, .ptr 9 0 0), (25, .ref 13 0 l5.length), (26, .i (((([] : List S29) ++ a0.Granted) ++ l3).length : Int)), (27, .i v17), (31, .mref 12), (33, .i x44.Tx), (38, .b true)] [(4, some (.box [.i a1.Tx, .d (.lit (.string a1.Table)), .d (.lit (.string a1.Key)), .i a1.Mode])), (9, some (.box [.i x44.Tx, .d (.lit (.string x44.Table)), .d (.lit (.string x44.Key)), .i x44.Mode])), (12, some (.mp (.int .i64) (encM MKey.ik vB m16))), (13, R37 l5)]) (by simp; exact Sub.table (by simp) (by simp)) ?_
      refine Chain.runQ 4 fun K hK => ?_; simp; refine hK _ _ ?_; clear hK K
      refine Chain.sub (S' := mk 56 [] [(4, .ptr 4 0 0), (7, .mref 12), (25, .ref 13 0 l5.length), (26, .i (((([] : List S29) ++ a0.Granted) ++ l3).length : Int)), (27, .i v17), (31, .mref 12), (33, .i x44.Tx), (39, .tup []), (40, .tup []), (41, .tup []), (42, .b true)] [(4, some (.box [.i a1.Tx, .d (.lit (.string a1.Table)), .d (.lit (.string a1.Key)), .i a1.Mode])), (12, some (.mp (.int .i64) (encM MKey.ik vB m16))), (13, R37 l5)]) Sub.tt ?_
      cases h
      exact Chain.nil Sub.tt
     ·have c51_ : v50 = false := Bool.eq_false_iff.2 c51
      refine Chain.sub (Sub.bool 38 (b := v50) rfl c51_) ?_
      refine Chain.sub (S' := mk 56 [] [(4, .ptr 4 0 0), (7, .mref 12), (9, .ptr 9 0 0), (25, .ref 13 0 l5.length), (26, .i (((([] : List S29) ++ a0.Granted) ++ l3).length : Int)), (27, .i v17), (31, .mref 12), (33, .i x44.Tx), (38, .b false)] [(4, some (.box [.i a1.Tx, .d (.lit (.string a1.Table)), .d (.lit (.string a1.Key)), .i a1.Mode])), (9, some (.box [.i x44.Tx, .d (.lit (.string x44.Table)), .d (.lit (.string x44.Key)), .i x44.Mode])), (12, some (.mp (.int .i64) (encM MKey.ik vB m16))), (13, R37 l5)]) (by simp; exact Sub.table (by simp) (by simp)) ?_
      refine Chain.runQ 2 fun K hK => ?_; simp; refine hK _ _ ?_; clear hK K
      refine Chain.sub (S' := mk 56 [] [(4, .ptr 4 0 0), (7, .mref 12), (25, .ref 13 0 l5.length), (26, .i (((([] : List S29) ++ a0.Granted) ++ l3).length : Int)), (27, .i v17), (31, .mref 12), (33, .i x44.Tx), (38, .b false), (39, .agg [.i a1.Tx, .d (.lit (.string a1.Table)), .d (.lit (.string a1.Key)), .i a1.Mode]), (40, .agg [.i x44.Tx, .d (.lit (.string x44.Table)), .d (.lit (.string x44.Key)), .i x44.Mode])] [(4, some (.box [.i a1.Tx, .d (.lit (.string a1.Table)), .d (.lit (.string a1.Key)), .i a1.Mode])), (12, some (.mp (.int .i64) (encM MKey.ik vB m16))), (13, R37 l5)]) Sub.tt ?_
      replace h := bsome h; obtain ⟨r52, hr52, h⟩ := h
      refine Chain.callL (d := 41) (p46 N a1 x44 r52 hr52) (by simp) rfl rfl (by simp <;> rfl) (by simp <;> rfl) ent46 (by simp <;> rfl) ?_
      refine Chain.sub (S' := mk 56 [] [(4, .ptr 4 0 0), (7, .mref 12), (25, .ref 13 0 l5.length), (26, .i (((([] : List S29) ++ a0.Granted) ++ l3).length : Int)), (27, .i v17), (31, .mref 12), (33, .i x44.Tx), (38, .b false), (39, .agg [.i a1.Tx, .d (.lit (.string a1.Table)), .d (.lit (.string a1.Key)), .i a1.Mode]), (40, .agg [.i x44.Tx, .d (.lit (.string x44.Table)), .d (.lit (.string x44.Key)), .i x44.Mode]), (41, .b r52)] [(4, some (.box [.i a1.Tx, .d (.lit (.string a1.Table)), .d (.lit (.string a1.Key)), .i a1.Mode])), (12, some (.mp (.int .i64) (encM MKey.ik vB m16))), (13, R37 l5)]) (by simp; exact Sub.table (by simp) (by simp)) ?_
      refine Chain.runQ 1 fun K hK => ?_; simp; refine hK _ _ ?_; clear hK K
      refine Chain.sub (S' := mk 56 [] [(4, .ptr 4 0 0), (7, .mref 12), (25, .ref 13 0 l5.length), (26, .i (((([] : List S29) ++ a0.Granted) ++ l3).length : Int)), (27, .i v17), (31, .mref 12), (33, .i x44.Tx), (39, .agg [.i a1.Tx, .d (.lit (.string a1.Table)), .d (.lit (.string a1.Key)), .i a1.Mode]), (40, .agg [.i x44.Tx, .d (.lit (.string x44.Table)), .d (.lit (.string x44.Key)), .i x44.Mode]), (41, .b r52), (42, .b r52)] [(4, some (.box [.i a1.Tx, .d (.lit (.string a1.Table)), .d (.lit (.string a1.Key)), .i a1.Mode])), (12, some (.mp (.int .i64) (encM MKey.ik vB m16))), (13, R37 l5)]) Sub.tt ?_
      cases h
      exact Chain.nil Sub.tt
    ·simp only [List.drop_succ_cons, List.drop_zero]
     clear hj
     refine Chain.sub hS ?_
     refine Chain.msetE (vf := vB) ik_inj m16 x44.Tx v49 (by simp) (.inl rfl) ty71 rfl ty3 rfl rfl rfl rfl rfl rfl rfl ?_
     refine Chain.sub (S' := mk 56 [] [(4, .ptr 4 0 0), (7, .mref 12), (25, .ref 13 0 l5.length), (26, .i (((([] : List S29) ++ a0.Granted) ++ l3).length : Int)), (27, .i v17), (31, .mref 12), (33, .i x44.Tx), (42, .b v49)] [(4, some (.box [.i a1.Tx, .d (.lit (.string a1.Table)), .d (.lit (.string a1.Key)), .i a1.Mode])), (12, some (.mp (.int .i64) (encM MKey.ik vB (mput m16 x44.Tx v49)))), (13, R37 l5)]) (by simp; exact Sub.table (by simp) (by simp)) ?_
     refine Chain.nil ?_
     refine blockQ.normal ?_
     refine thenQ_normal ?_
     refine AW.region ?_
     replace h := bsome h; obtain ⟨v53, hv53, h⟩ := h
     have hv53 := chkI_some hv53
     refine Chain.runK [] 2 fun K hK => ?_; simp [hv53]; refine hK _ _ ?_; clear hK K
     refine Chain.sub (S' := mk 56 [] [(4, .ptr 4 0 0), (7, .mref 12), (25, .ref 13 0 l5.length), (26, .i (((([] : List S29) ++ a0.Granted) ++ l3).length : Int)), (27, .i v53)] [(4, some (.box [.i a1.Tx, .d (.lit (.string a1.Table)), .d (.lit (.string a1.Key)), .i a1.Mode])), (12, some (.mp (.int .i64) (encM MKey.ik vB (mput m16 x44.Tx v49)))), (13, R37 l5)]) Sub.tt ?_
     refine Chain.nil ?_
     cases h
     refine PostI.next ?_
     exact Sub.tt
   ·have c43_ : decide (v17 < (((([] : List S29) ++ a0.Granted) ++ l3).length : Int)) = false := decide_eq_false c43
    refine AW.condF (b := decide (v17 < (((([] : List S29) ++ a0.Granted) ++ l3).length : Int))) rfl c43_ ?_
    refine AW.sub (Sub.bool 28 (b := decide (v17 < (((([] : List S29) ++ a0.Granted) ++ l3).length : Int))) rfl c43_) ?_
    refine AW.sub (S' := mk 56 [] [(4, .ptr 4 0 0), (7, .mref 12), (25, .ref 13 0 l5.length), (26, .i (((([] : List S29) ++ a0.Granted) ++ l3).length : Int)), (27, .i v17), (28, .b false)] [(4, some (.box [.i a1.Tx, .d (.lit (.string a1.Table)), .d (.lit (.string a1.Key)), .i a1.Mode])), (12, some (.mp (.int .i64) (encM MKey.ik vB m16))), (13, R37 l5)]) (by simp; exact Sub.table (by simp) (by simp)) ?_
    refine AW.exit ?_
    cases h
    refine thenQ_pass (by simp) ?_
    refine PostI.out (by simp) ?_
    rintro rfl
    refine blockQ.hit ?_
    refine PostN.next ?_
    exact Sub.tt
  ·rintro m42 h
   refine thenQ_normal ?_
   refine AW.seqR ?_
   refine Chain.runK [] 1 fun K hK => ?_; simp; refine hK _ _ ?_; clear hK K
   refine Chain.sub (S' := mk 56 [] [(7, .mref 12), (10, .d (.lit (.slice none 0 0)))] [(12, some (.mp (.int .i64) (encM MKey.ik vB m42)))]) Sub.tt ?_
   refine Chain.nil ?_
   refine AW.seq ?_
   refine AW.seqR ?_
   refine Chain.runK [] 1 fun K hK => ?_; simp; refine hK _ _ ?_; clear hK K
   refine Chain.sub (S' := mk 56 [] [(7, .mref 12), (10, .d (.lit (.slice none 0 0))), (44, .i 0)] [(12, some (.mp (.int .i64) (encM MKey.ik vB m42)))]) Sub.tt ?_
   refine Chain.nil ?_
   refine AW.lastN (fun (l76 : List Int) => mk 56 [] [(10, .ref 53 0 l76.length)] [(53, R3 l76)]) h ?_ ?_ <;> clear h
   ·intro o h
    refine AW.block ?_
    refine AW.iter (fun ((l60, v61) : ((List Int) × Int)) => mk 56 [] [(7, .mref 12), (10, .ref 53 0 l60.length), (44, .i v61)] [(12, some (.mp (.int .i64) (encM MKey.ik vB m42))), (53, R3 l60)]) h (Sub.trans (Sub.nilOwn (t := 10) (id := 53) (T := 3) (n := 1) rfl rfl (by decide)) (by simp; exact Sub.table (by simp) (by simp))) ?_
    clear h
    rintro ⟨l60, v61⟩ x h
    dsimp only at h ⊢
    refine AW.seqR ?_
    refine Chain.runK [] 1 fun K hK => ?_; simp; refine hK _ _ ?_; clear hK K
    refine Chain.sub (S' := mk 56 [] [(7, .mref 12), (10, .ref 53 0 l60.length), (44, .i v61), (45, .b (decide (v61 < 20)))] [(12, some (.mp (.int .i64) (encM MKey.ik vB m42))), (53, R3 l60)]) Sub.tt ?_
    refine Chain.nil ?_
    refine AW.seq ?_
    replace h := isome h; rcases h with ⟨c77, h⟩ | ⟨c77, h⟩
    ·have c77_ : decide (v61 < 20) = true := decide_eq_true c77
     refine AW.condT (b := decide (v61 < 20)) rfl c77_ ?_
     refine AW.sub (Sub.bool 45 (b := decide (v61 < 20)) rfl c77_) ?_
     refine AW.sub (S' := mk 56 [] [(7, .mref 12), (10, .ref 53 0 l60.length), (44, .i v61), (45, .b true)] [(12, some (.mp (.int .i64) (encM MKey.ik vB m42))), (53, R3 l60)]) (by simp; exact Sub.table (by simp) (by simp)) ?_
     refine AW.skip ?_
     refine thenQ_normal ?_
     refine AW.seq ?_
     refine AW.block ?_
     refine AW.seqR ?_
     refine Chain.runK [] 2 fun K hK => ?_; simp; refine hK _ _ ?_; clear hK K
     refine Chain.sub (S' := mk 56 [] [(7, .mref 12), (10, .ref 53 0 l60.length), (11, .i v61), (44, .i v61)] [(12, some (.mp (.int .i64) (encM MKey.ik vB m42))), (53, R3 l60)]) Sub.tt ?_
     refine Chain.nil ?_
     refine AW.seqR ?_
     refine Chain.runK [] 2 fun K hK => ?_; simp; refine hK _ _ ?_; clear hK K
     refine Chain.sub (S' := mk 56 [] [(7, .mref 12), (10, .ref 53 0 l60.length), (11, .i v61), (44, .i v61), (47, .mref 12), (48, .i v61)] [(12, some (.mp (.int .i64) (encM MKey.ik vB m42))), (53, R3 l60)]) Sub.tt ?_
     replace h := lsome h; obtain ⟨v78, hv78, h⟩ := h
     refine Chain.lookE (vf := vB) ik_inj m42 v61 false (by simp) rfl ty71 rfl ty3 ty4 rfl rfl rfl rfl rfl rfl rfl ?_
     refine Chain.sub (S' := mk 56 [] [(7, .mref 12), (10, .ref 53 0 l60.length), (11, .i v61), (44, .i v61), (47, .mref 12), (48, .i v61), (49, .b v78)] [(12, some (.mp (.int .i64) (encM MKey.ik vB m42))), (53, R3 l60)]) (by simp [vB, hv78]; exact Sub.table (by simp) (by simp)) ?_
     refine Chain.nil ?_
     replace h := isome h; rcases h with ⟨c79, h⟩ | ⟨c79, h⟩
     ·have c79_ : v78 = true := c79
      refine AW.condT (b := v78) rfl c79_ ?_
      refine AW.sub (Sub.bool 49 (b := v78) rfl c79_) ?_
      refine AW.sub (S' := mk 56 [] [(7, .mref 12), (10, .ref 53 0 l60.length), (11, .i v61), (44, .i v61), (47, .mref 12), (48, .i v61), (49, .b true)] [(12, some (.mp (.int .i64) (encM MKey.ik vB m42))), (53, R3 l60)]) (by simp; exact Sub.table (by simp) (by simp)) ?_
      refine AW.region ?_
      replace h := bsome h; obtain ⟨l80, hl80, h⟩ := h
      obtain ⟨hl80a, hl80⟩ := appL_some hl80
      subst hl80
      try simp only [List.length_cons, List.length_nil, Nat.zero_add] at hl80a
      refine Chain.runK [52] 5 fun K hK => ?_; simp [hl80a]; refine hK _ _ ?_; clear hK K
      refine Chain.sub (S' := mk 56 [] [(7, .mref 12), (10, .ref 53 0 ((l60 ++ [v61]).length)), (44, .i v61)] [(12, some (.mp (.int .i64) (encM MKey.ik vB m42))), (53, R3 (l60 ++ [v61]))]) Sub.tt ?_
      refine Chain.nil ?_
      refine blockQ.normal ?_
      refine thenQ_normal ?_
      refine AW.region ?_
      replace h := bsome h; obtain ⟨v81, hv81, h⟩ := h
      have hv81 := chkI_some hv81
      refine Chain.runK [] 2 fun K hK => ?_; simp [hv81]; refine hK _ _ ?_; clear hK K
      refine Chain.sub (S' := mk 56 [] [(7, .mref 12), (10, .ref 53 0 ((l60 ++ [v61]).length)), (44, .i v81)] [(12, some (.mp (.int .i64) (encM MKey.ik vB m42))), (53, R3 (l60 ++ [v61]))]) Sub.tt ?_
      refine Chain.nil ?_
      cases h
      refine PostI.next ?_
      exact Sub.tt
     ·have c79_ : v78 = false := Bool.eq_false_iff.2 c79
      refine AW.condF (b := v78) rfl c79_ ?_
      refine AW.sub (Sub.bool 49 (b := v78) rfl c79_) ?_
      refine AW.sub (S' := mk 56 [] [(7, .mref 12), (10, .ref 53 0 l60.length), (11, .i v61), (44, .i v61), (47, .mref 12), (48, .i v61), (49, .b false)] [(12, some (.mp (.int .i64) (encM MKey.ik vB m42))), (53, R3 l60)]) (by simp; exact Sub.table (by simp) (by simp)) ?_
      refine AW.skip ?_
      refine blockQ.normal ?_
      refine thenQ_normal ?_
      refine AW.region ?_
      replace h := bsome h; obtain ⟨v82, hv82, h⟩ := h
      have hv82 := chkI_some hv82
      refine Chain.runK [] 2 fun K hK => ?_; simp [hv82]; refine hK _ _ ?_; clear hK K
      refine Chain.sub (S' := mk 56 [] [(7, .mref 12), (10, .ref 53 0 l60.length), (44, .i v82)] [(12, some (.mp (.int .i64) (encM MKey.ik vB m42))), (53, R3 l60)]) Sub.tt ?_
      refine Chain.nil ?_
      cases h
      refine PostI.next ?_
      exact Sub.tt
    ·have c77_ : decide (v61 < 20) = false := decide_eq_false c77
     refine AW.condF (b := decide (v61 < 20)) rfl c77_ ?_
     refine AW.sub (Sub.bool 45 (b := decide (v61 < 20)) rfl c77_) ?_
     refine AW.sub (S' := mk 56 [] [(7, .mref 12), (10, .ref 53 0 l60.length), (44, .i v61), (45, .b false)] [(12, some (.mp (.int .i64) (encM MKey.ik vB m42))), (53, R3 l60)]) (by simp; exact Sub.table (by simp) (by simp)) ?_
     refine AW.exit ?_
     cases h
     refine thenQ_pass (by simp) ?_
     refine PostI.out (by simp) ?_
     rintro rfl
     refine blockQ.hit ?_
     refine PostN.next ?_
     exact Sub.tt
   ·rintro l76 h
    refine thenQ_normal ?_
    refine AW.seqR ?_
    refine Chain.runK [] 2 fun K hK => ?_; simp; refine hK _ _ ?_; clear hK K
    refine Chain.sub (S' := mk 56 [] [(6, .ref 53 0 l76.length)] [(53, R3 l76)]) Sub.tt ?_
    refine Chain.nil ?_
    refine AW.ret ?_
    obtain rfl := Option.some.inj h
    exact FinO.ret (.ref 53 0 l76.length) 53 (by simp) (by simp) (by simp) (by simp) rfl

end Go.Proofs.Ytdiekinmoklonaa
