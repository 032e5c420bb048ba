/- Functions of the program as functional programs; the code computes them. -/
import Derived.Test.YtifcmomjjkbboabRp11
namespace Go.Proofs.Ytifcmomjjkbboab
open Go.Ab Go.Rp
attribute [-simp] List.all_eq_true Array.all_toList Array.all_eq_true

/-- (*stemma/stemref5.Cluster).Receive -/
def d18 (N : Nat) (a0 : S44) (a1 : S73) : Option S44 :=
 (idx a0.Servers a1.To).bind fun _x1 =>
 (idx a0.Servers a1.To).bind fun x5 =>
 if a1.Term < x5.Term then (
  some a0
 ) else
 if (a1.Kind == 2) then (
  Option.bind (α := Bool) (
   (idx a0.Servers a1.To).bind fun x16 =>
   if (a1.Term == x16.Term) then (
    (d13 N a0 a1.To).bind fun r20 =>
    some r20
   ) else
   some false
  ) fun (v15 : Bool) =>
  if v15 = true then (
   (idx a0.Servers a1.To).bind fun x22 =>
   (idx x22.Match a1.From).bind fun x25 =>
   letv (maxI x25 a1.Index) fun v27 =>
   letv (setI x22.Match a1.From v27) fun l28 =>
   letv (setI a0.Servers a1.To (S68.mk x22.Term x22.Commit x22.Log l28)) fun l29 =>
   (d27 N (S44.mk l29 a0.Leaders a0.Network) a1.To).bind fun r30 =>
   some r30
  ) else
  some a0
 ) else
 (idx a0.Servers a1.To).bind fun x31 =>
 letv (setI a0.Servers a1.To (S68.mk a1.Term x31.Commit x31.Log x31.Match)) fun l34 =>
 Option.bind (α := Bool) (
  (idx l34 a1.To).bind fun x44 =>
  if (x44.Log.length : Int) < a1.Index then (
   some true
  ) else
  if a1.Index > 0 then (
   (chkI (a1.Index - 1)).bind fun v49 =>
   (idx x44.Log v49).bind fun x50 =>
   some (x50.Term != a1.PrevTerm)
  ) else
  some false
 ) fun (v43 : Bool) =>
 if v43 = true then (
  some (S44.mk l34 a0.Leaders a0.Network)
 ) else
 Option.bind (α := List S68) (
  iterN (σ := ((List S68) × Int)) (ρ := List S68) (fun ((l105, v106) : ((List S68) × Int)) =>
   if v106 < (a1.Entries.length : Int) then (
    (idx a1.Entries v106).bind fun x217 =>
    (chkI (a1.Index + v106)).bind fun v219 =>
    Option.bind (α := Bool) (
     (idx l105 a1.To).bind fun x233 =>
     if v219 < (x233.Log.length : Int) then (
      (idx x233.Log v219).bind fun x237 =>
      some (x237.Term != x217.Term)
     ) else
     some false
    ) fun (v232 : Bool) =>
    Option.bind (α := ((List S68) × Int)) (
     if v232 = true then (
      (idx l105 a1.To).bind fun x250 =>
      (natI v219 x250.Log.length).bind fun n253 =>
      letv (x250.Log.take n253) fun l254 =>
      (appL 24 ([] : List S64) l254).bind fun _l255 =>
      letv (setI l105 a1.To (S68.mk x250.Term x250.Commit l254 x250.Match)) fun l256 =>
      some (l256, (l254.length : Int))
     ) else
     some (l105, v219)
    ) fun ((l247, v248) : ((List S68) × Int)) =>
    (idx l247 a1.To).bind fun x257 =>
    if (v248 == (x257.Log.length : Int)) then (
     (idx l247 a1.To).bind fun x261 =>
     (appL 24 ([] : List S64) x261.Log).bind fun _l264 =>
     (appL 24 (([] : List S64) ++ x261.Log) [x217]).bind fun _l265 =>
     letv (setI l247 a1.To (S68.mk x261.Term x261.Commit ((([] : List S64) ++ x261.Log) ++ [x217]) x261.Match)) fun l266 =>
     (chkI (v106 + 1)).bind fun v267 =>
     some (.inl (l266, v267))
    ) else
    (chkI (v106 + 1)).bind fun v268 =>
    some (.inl (l247, v268))
   ) else
   some (.inr l105)
  ) N (l34, 0)
 ) fun (l215 : List S68) =>
 (chkI (a1.Index + (a1.Entries.length : Int))).bind fun v269 =>
 letv (minI a1.Commit v269) fun v270 =>
 (idx l215 a1.To).bind fun x271 =>
 Option.bind (α := List S68) (
  if v270 > x271.Commit then (
   (idx l215 a1.To).bind fun x281 =>
   letv (setI l215 a1.To (S68.mk x281.Term v270 x281.Log x281.Match)) fun l284 =>
   some l284
  ) else
  some l215
 ) fun (l279 : List S68) =>
 if (a0.Network.length : Int) < 100 then (
  (appL 80 a0.Network [(S73.mk 2 a1.To a1.From a1.Term v269 0 0 ([] : List S64))]).bind fun _l286 =>
  some (S44.mk l279 a0.Leaders (a0.Network ++ [(S73.mk 2 a1.To a1.From a1.Term v269 0 0 ([] : List S64))]))
 ) else
 some (S44.mk l279 a0.Leaders a0.Network)
set_option maxRecDepth 100000 in
set_option maxHeartbeats 4000000 in
theorem p18 (N : Nat) (a0 : S44) (a1 : S73) (r : S44) (h : d18 N a0 a1 = some r) : FunM Try.prog 18 [.ptr 1000 0 0, .agg [.i a1.Kind, .i a1.From, .i a1.To, .i a1.Term, .i a1.Index, .i a1.PrevTerm, .i a1.Commit, .d (.sl (a1.Entries.map cS64))]] [(1000, some (.box [.ref 25000 0 a0.Servers.length, .ref 25001 0 a0.Leaders.length, .ref 25002 0 a0.Network.length])), (25000, some (.nest 68 4 [none, none, some (71, 2), some (3, 1)] (a0.Servers.map cS68) [])), (25001, R3 a0.Leaders), (25002, R47 a0.Network)] [1000] (.tup []) ([(1000, (.box [.ref 25000 0 r.Servers.length, .ref 25001 0 r.Leaders.length, .ref 25002 0 r.Network.length])), (25000, (.nest 68 4 [none, none, some (71, 2), some (3, 1)] (r.Servers.map cS68) [])), (25001, (.arr 3 1 (r.Leaders.map (cI .i64)))), (25002, (.arr 47 8 (r.Network.map cS73)))]) := by
 unfold d18 at h
 refine FunM.enter 203 [(0, .ptr 1000 0 0), (1, .agg [.i a1.Kind, .i a1.From, .i a1.To, .i a1.Term, .i a1.Index, .i a1.PrevTerm, .i a1.Commit, .d (.sl (a1.Entries.map cS64))])] Try.func18 rfl (of_decide_eq_true rfl) rfl rfl ?_
 refine .seqR ?_
 refine .runK [] 1 fun K k => ?_; simp; refine k _ _ ?_; clear k K
 refine .tt [(0, .ptr 1000 0 0), (3, .ptr 3 0 0)] (H12 a1 a0) ?_
 refine .nil ?_
 refine .seqQ (by kernel_rfl) (by kernel_rfl) ?_
 refine .runQ 6 fun K k => ?_; simp; refine k _ _ ?_; clear k K
 refine .tt [(0, .ptr 1000 0 0), (3, .ptr 3 0 0), (13, .ref 25000 0 a0.Servers.length), (15, .i a1.To)] (H12 a1 a0) ?_
 replace h := bsome h; obtain ⟨x1, hx1, h⟩ := h
 obtain ⟨k2, hx1k, hx1, hx1a, hx1b⟩ := idx_some hx1
 refine .sub (.open 25000 k2 [9003, 9004] (e := cS68 x1) rfl rfl (by simp [hx1]) rfl (by simp) rfl) ?_
 refine .st (mk 203 [1000] [(0, .ptr 1000 0 0), (3, .ptr 3 0 0), (13, .ref 25000 0 a0.Servers.length), (15, .i a1.To)] [(3, some (.box [.i a1.Kind, .i a1.From, .i a1.To, .i a1.Term, .i a1.Index, .i a1.PrevTerm, .i a1.Commit, .d (.sl (a1.Entries.map cS64))])), (1000, some (.box [.ref 25000 0 a0.Servers.length, .ref 25001 0 a0.Leaders.length, .ref 25002 0 a0.Network.length])), (9003, R71 x1.Log), (9004, R3 x1.Match), (25000, some (.nest 68 4 [none, none, some (71, 2), some (3, 1)] (a0.Servers.map cS68) [(k2, [.i x1.Term, .i x1.Commit, .ref 9003 0 x1.Log.length, .ref 9004 0 x1.Match.length])])), (25001, R3 a0.Leaders), (25002, R47 a0.Network)]) ?_
 refine .runQ 2 fun K k => ?_; simp [hx1k, hx1a, hx1b]; refine k _ _ ?_; clear k K
 refine .tt [(0, .ptr 1000 0 0), (3, .ptr 3 0 0), (4, .ptr 25000 k2 0)] [(3, some (.box [.i a1.Kind, .i a1.From, .i a1.To, .i a1.Term, .i a1.Index, .i a1.PrevTerm, .i a1.Commit, .d (.sl (a1.Entries.map cS64))])), (1000, some (.box [.ref 25000 0 a0.Servers.length, .ref 25001 0 a0.Leaders.length, .ref 25002 0 a0.Network.length])), (9003, R71 x1.Log), (9004, R3 x1.Match), (25000, some (.nest 68 4 [none, none, some (71, 2), some (3, 1)] (a0.Servers.map cS68) [(k2, [.i x1.Term, .i x1.Commit, .ref 9003 0 x1.Log.length, .ref 9004 0 x1.Match.length])])), (25001, R3 a0.Leaders), (25002, R47 a0.Network)] ?_
 refine .sub (.closeSame 25000 k2 (e := cS68 x1) (cs := [.d (.lit (.int .i64 x1.Term)), .d (.lit (.int .i64 x1.Commit)), .ref 9003 0 x1.Log.length, .ref 9004 0 x1.Match.length]) (ks := [9003, 9004]) rfl rfl (by simp [hx1]) (by simp) (by decide) rfl) ?_
 refine .sub (S' := mk 203 [1000] [(0, .ptr 1000 0 0), (3, .ptr 3 0 0), (4, .ptr 25000 k2 0)] (H12 a1 a0)) (by simp; exact Sub.table (by simp) (by simp)) ?_
 refine .nil ?_
 refine .seq ?_
 refine .block ?_
 refine .seqQ (by kernel_rfl) (by kernel_rfl) ?_
 refine .runQ 5 fun K k => ?_; simp; refine k _ _ ?_; clear k K
 refine .tt (L11 k2 ++ [(19, .i a1.Term), (22, .ptr 25000 k2 0)]) (H12 a1 a0) ?_
 replace h := bsome h; obtain ⟨x5, hx5, h⟩ := h
 obtain ⟨hx5, hx5a, hx5b⟩ := idx_some2 hx5 hx1k
 refine .sub (.open 25000 k2 [9006, 9007] (e := cS68 x5) rfl rfl (by simp [hx5]) rfl (by simp) rfl) ?_
 refine .st (mk 203 [1000] (L11 k2 ++ [(19, .i a1.Term), (22, .ptr 25000 k2 0)]) [(3, some (.box [.i a1.Kind, .i a1.From, .i a1.To, .i a1.Term, .i a1.Index, .i a1.PrevTerm, .i a1.Commit, .d (.sl (a1.Entries.map cS64))])), (1000, some (.box [.ref 25000 0 a0.Servers.length, .ref 25001 0 a0.Leaders.length, .ref 25002 0 a0.Network.length])), (9006, R71 x5.Log), (9007, R3 x5.Match), (25000, some (.nest 68 4 [none, none, some (71, 2), some (3, 1)] (a0.Servers.map cS68) [(k2, [.i x5.Term, .i x5.Commit, .ref 9006 0 x5.Log.length, .ref 9007 0 x5.Match.length])])), (25001, R3 a0.Leaders), (25002, R47 a0.Network)]) ?_
 refine .runQ 3 fun K k => ?_; simp; refine k _ _ ?_; clear k K
 refine .tt (L11 k2 ++ [(17, .b (decide (a1.Term < x5.Term)))]) [(3, some (.box [.i a1.Kind, .i a1.From, .i a1.To, .i a1.Term, .i a1.Index, .i a1.PrevTerm, .i a1.Commit, .d (.sl (a1.Entries.map cS64))])), (1000, some (.box [.ref 25000 0 a0.Servers.length, .ref 25001 0 a0.Leaders.length, .ref 25002 0 a0.Network.length])), (9006, R71 x5.Log), (9007, R3 x5.Match), (25000, some (.nest 68 4 [none, none, some (71, 2), some (3, 1)] (a0.Servers.map cS68) [(k2, [.i x5.Term, .i x5.Commit, .ref 9006 0 x5.Log.length, .ref 9007 0 x5.Match.length])])), (25001, R3 a0.Leaders), (25002, R47 a0.Network)] ?_
 refine .sub (.closeSame 25000 k2 (e := cS68 x5) (cs := [.d (.lit (.int .i64 x5.Term)), .d (.lit (.int .i64 x5.Commit)), .ref 9006 0 x5.Log.length, .ref 9007 0 x5.Match.length]) (ks := [9006, 9007]) rfl rfl (by simp [hx5]) (by simp) (by decide) rfl) ?_
 refine .sub (S' := mk 203 [1000] (L11 k2 ++ [(17, .b (decide (a1.Term < x5.Term)))]) (H12 a1 a0)) (by simp; exact Sub.table (by simp) (by simp)) ?_
 refine .nil ?_
 replace h := isome h; rcases h with ⟨c8, h⟩ | ⟨c8, h⟩
 ·have c8_ : decide (a1.Term < x5.Term) = true := decide_eq_true c8
  refine .condT (b := decide (a1.Term < x5.Term)) rfl c8_ ?_
  refine .sub (.bool 17 (b := decide (a1.Term < x5.Term)) rfl c8_) ?_
  refine .st (mk 203 [1000] (L11 k2 ++ [(17, .b true)]) (H12 a1 a0)) ?_
  refine .ret ?_
  cases h
  refine blockQ.ret ?_
  refine thenQ_pass (by simp) ?_
  exact FinF.ret (by simp) (by simp)
 have c8_ : decide (a1.Term < x5.Term) = false := decide_eq_false c8
 refine .condF (b := decide (a1.Term < x5.Term)) rfl c8_ ?_
 refine .sub (.bool 17 (b := decide (a1.Term < x5.Term)) rfl c8_) ?_
 refine .st (mk 203 [1000] (L11 k2 ++ [(17, .b false)]) (H12 a1 a0)) ?_
 refine .seqR ?_
 refine .runK [] 4 fun K k => ?_; simp; refine k _ _ ?_; clear k K
 refine .tt (L11 k2 ++ [(25, .b (a1.Kind == 2))]) (H12 a1 a0) ?_
 refine .nil ?_
 replace h := isome h; rcases h with ⟨c9, h⟩ | ⟨c9, h⟩
 ·have c9_ : (a1.Kind == 2) = true := c9
  refine .condT (b := (a1.Kind == 2)) rfl c9_ ?_
  refine .sub (.bool 25 (b := (a1.Kind == 2)) rfl c9_) ?_
  refine .st (mk 203 [1000] (L11 k2 ++ [(25, .b true)]) (H12 a1 a0)) ?_
  refine .seq ?_
  replace h := bsome h; obtain ⟨v15, hj, h⟩ := h
  refine .cutQ (by kernel_rfl) (by kernel_rfl) (mk 203 [1000] (L11 k2 ++ [(41, .b v15)]) (H12 a1 a0)) ?_ ?_
  ·clear h; have h := hj; clear hj
   refine .runQ 5 fun K k => ?_; simp; refine k _ _ ?_; clear k K
   refine .tt (L11 k2 ++ [(30, .i a1.Term), (33, .ptr 25000 k2 0)]) (H12 a1 a0) ?_
   replace h := bsome h; obtain ⟨x16, hx16, h⟩ := h
   obtain ⟨hx16, hx16a, hx16b⟩ := idx_some2 hx16 hx1k
   refine .sub (.open 25000 k2 [9017, 9018] (e := cS68 x16) rfl rfl (by simp [hx16]) rfl (by simp) rfl) ?_
   refine .st (mk 203 [1000] (L11 k2 ++ [(30, .i a1.Term), (33, .ptr 25000 k2 0)]) [(3, some (.box [.i a1.Kind, .i a1.From, .i a1.To, .i a1.Term, .i a1.Index, .i a1.PrevTerm, .i a1.Commit, .d (.sl (a1.Entries.map cS64))])), (1000, some (.box [.ref 25000 0 a0.Servers.length, .ref 25001 0 a0.Leaders.length, .ref 25002 0 a0.Network.length])), (9017, R71 x16.Log), (9018, R3 x16.Match), (25000, some (.nest 68 4 [none, none, some (71, 2), some (3, 1)] (a0.Servers.map cS68) [(k2, [.i x16.Term, .i x16.Commit, .ref 9017 0 x16.Log.length, .ref 9018 0 x16.Match.length])])), (25001, R3 a0.Leaders), (25002, R47 a0.Network)]) ?_
   refine .runQ 3 fun K k => ?_; simp; refine k _ _ ?_; clear k K
   refine .tt (L11 k2 ++ [(36, .b (a1.Term == x16.Term))]) [(3, some (.box [.i a1.Kind, .i a1.From, .i a1.To, .i a1.Term, .i a1.Index, .i a1.PrevTerm, .i a1.Commit, .d (.sl (a1.Entries.map cS64))])), (1000, some (.box [.ref 25000 0 a0.Servers.length, .ref 25001 0 a0.Leaders.length, .ref 25002 0 a0.Network.length])), (9017, R71 x16.Log), (9018, R3 x16.Match), (25000, some (.nest 68 4 [none, none, some (71, 2), some (3, 1)] (a0.Servers.map cS68) [(k2, [.i x16.Term, .i x16.Commit, .ref 9017 0 x16.Log.length, .ref 9018 0 x16.Match.length])])), (25001, R3 a0.Leaders), (25002, R47 a0.Network)] ?_
   replace h := isome h; rcases h with ⟨c19, h⟩ | ⟨c19, h⟩
   ·have c19_ : (a1.Term == x16.Term) = true := c19
    refine .sub (.bool 36 (b := (a1.Term == x16.Term)) rfl c19_) ?_
    refine .st (mk 203 [1000] (L11 k2 ++ [(36, .b true)]) [(3, some (.box [.i a1.Kind, .i a1.From, .i a1.To, .i a1.Term, .i a1.Index, .i a1.PrevTerm, .i a1.Commit, .d (.sl (a1.Entries.map cS64))])), (1000, some (.box [.ref 25000 0 a0.Servers.length, .ref 25001 0 a0.Leaders.length, .ref 25002 0 a0.Network.length])), (9017, R71 x16.Log), (9018, R3 x16.Match), (25000, some (.nest 68 4 [none, none, some (71, 2), some (3, 1)] (a0.Servers.map cS68) [(k2, [.i x16.Term, .i x16.Commit, .ref 9017 0 x16.Log.length, .ref 9018 0 x16.Match.length])])), (25001, R3 a0.Leaders), (25002, R47 a0.Network)]) ?_
    refine .runQ 3 fun K k => ?_; simp; refine k _ _ ?_; clear k K
    refine .tt (L24 k2 a1.To) [(3, some (.box [.i a1.Kind, .i a1.From, .i a1.To, .i a1.Term, .i a1.Index, .i a1.PrevTerm, .i a1.Commit, .d (.sl (a1.Entries.map cS64))])), (1000, some (.box [.ref 25000 0 a0.Servers.length, .ref 25001 0 a0.Leaders.length, .ref 25002 0 a0.Network.length])), (9017, R71 x16.Log), (9018, R3 x16.Match), (25000, some (.nest 68 4 [none, none, some (71, 2), some (3, 1)] (a0.Servers.map cS68) [(k2, [.i x16.Term, .i x16.Commit, .ref 9017 0 x16.Log.length, .ref 9018 0 x16.Match.length])])), (25001, R3 a0.Leaders), (25002, R47 a0.Network)] ?_
    refine .sub (.closeSame 25000 k2 (e := cS68 x16) (cs := [.d (.lit (.int .i64 x16.Term)), .d (.lit (.int .i64 x16.Commit)), .ref 9017 0 x16.Log.length, .ref 9018 0 x16.Match.length]) (ks := [9017, 9018]) rfl rfl (by simp [hx16]) (by simp) (by decide) rfl) ?_
    refine .sub (S' := mk 203 [1000] (L24 k2 a1.To) (H12 a1 a0)) (by simp; exact Sub.table (by simp) (by simp)) ?_
    replace h := bsome h; obtain ⟨r20, hr20, h⟩ := h
    refine .callL (d := 40) (p13 N a0 a1.To r20 hr20) (by simp) rfl rfl (by simp <;> rfl) (by simp <;> rfl) ent13 (by simp <;> rfl) ?_
    refine .st (mk 203 [1000] (L24 k2 a1.To ++ [(40, .b r20)]) (H12 a1 a0)) ?_
    refine .runQ 1 fun K k => ?_; simp; refine k _ _ ?_; clear k K
    refine .tt (L11 k2 ++ [(41, .b r20)]) (H12 a1 a0) ?_
    cases h
    exact .nil .tt
   have c19_ : (a1.Term == x16.Term) = false := Bool.eq_false_iff.2 c19
   refine .sub (.bool 36 (b := (a1.Term == x16.Term)) rfl c19_) ?_
   refine .st (mk 203 [1000] (L11 k2 ++ [(36, .b false)]) [(3, some (.box [.i a1.Kind, .i a1.From, .i a1.To, .i a1.Term, .i a1.Index, .i a1.PrevTerm, .i a1.Commit, .d (.sl (a1.Entries.map cS64))])), (1000, some (.box [.ref 25000 0 a0.Servers.length, .ref 25001 0 a0.Leaders.length, .ref 25002 0 a0.Network.length])), (9017, R71 x16.Log), (9018, R3 x16.Match), (25000, some (.nest 68 4 [none, none, some (71, 2), some (3, 1)] (a0.Servers.map cS68) [(k2, [.i x16.Term, .i x16.Commit, .ref 9017 0 x16.Log.length, .ref 9018 0 x16.Match.length])])), (25001, R3 a0.Leaders), (25002, R47 a0.Network)]) ?_
   refine .runQ 5 fun K k => ?_; simp; refine k _ _ ?_; clear k K
   refine .tt (L25 k2) [(3, some (.box [.i a1.Kind, .i a1.From, .i a1.To, .i a1.Term, .i a1.Index, .i a1.PrevTerm, .i a1.Commit, .d (.sl (a1.Entries.map cS64))])), (1000, some (.box [.ref 25000 0 a0.Servers.length, .ref 25001 0 a0.Leaders.length, .ref 25002 0 a0.Network.length])), (9017, R71 x16.Log), (9018, R3 x16.Match), (25000, some (.nest 68 4 [none, none, some (71, 2), some (3, 1)] (a0.Servers.map cS68) [(k2, [.i x16.Term, .i x16.Commit, .ref 9017 0 x16.Log.length, .ref 9018 0 x16.Match.length])])), (25001, R3 a0.Leaders), (25002, R47 a0.Network)] ?_
   refine .sub (.closeSame 25000 k2 (e := cS68 x16) (cs := [.d (.lit (.int .i64 x16.Term)), .d (.lit (.int .i64 x16.Commit)), .ref 9017 0 x16.Log.length, .ref 9018 0 x16.Match.length]) (ks := [9017, 9018]) rfl rfl (by simp [hx16]) (by simp) (by decide) rfl) ?_
   refine .sub (S' := mk 203 [1000] (L25 k2) (H12 a1 a0)) (by simp; exact Sub.table (by simp) (by simp)) ?_
   cases h
   exact .nil .tt
  clear hj
  replace h := isome h; rcases h with ⟨c21, h⟩ | ⟨c21, h⟩
  ·have c21_ : v15 = true := c21
   refine .condT (b := v15) rfl c21_ ?_
   refine .sub (.bool 41 (b := v15) rfl c21_) ?_
   refine .st (mk 203 [1000] (L11 k2 ++ [(41, .b true)]) (H12 a1 a0)) ?_
   replace h := bsome h; obtain ⟨x22, hx22, h⟩ := h
   obtain ⟨hx22, hx22a, hx22b⟩ := idx_some2 hx22 hx1k
   refine .sub (.open 25000 k2 [9023, 9024] (e := cS68 x22) rfl rfl (by simp [hx22]) rfl (by simp) rfl) ?_
   refine .st (mk 203 [1000] (L11 k2 ++ [(41, .b true)]) [(3, some (.box [.i a1.Kind, .i a1.From, .i a1.To, .i a1.Term, .i a1.Index, .i a1.PrevTerm, .i a1.Commit, .d (.sl (a1.Entries.map cS64))])), (1000, some (.box [.ref 25000 0 a0.Servers.length, .ref 25001 0 a0.Leaders.length, .ref 25002 0 a0.Network.length])), (9023, R71 x22.Log), (9024, R3 x22.Match), (25000, some (.nest 68 4 [none, none, some (71, 2), some (3, 1)] (a0.Servers.map cS68) [(k2, [.i x22.Term, .i x22.Commit, .ref 9023 0 x22.Log.length, .ref 9024 0 x22.Match.length])])), (25001, R3 a0.Leaders), (25002, R47 a0.Network)]) ?_
   replace h := bsome h; obtain ⟨x25, hx25, h⟩ := h
   obtain ⟨k26, hx25k, hx25, hx25a, hx25b⟩ := idx_some hx25
   replace h := lsome h; obtain ⟨v27, hv27, h⟩ := h
   unfold maxI at hv27
   replace h := lsome h; obtain ⟨l28, gl28, h⟩ := h
   obtain ⟨hl28, hl28n⟩ := setI_some (cI .i64) gl28 hx25k
   replace hl28 : (x22.Match.map (cI .i64)).set k26 [.lit (.int .i64 v27)] = l28.map (cI .i64) := hl28
   clear gl28
   refine .seqAnyS [[], [0], [0, 1], [0, 1, 2], [], [4], [], [6], [6, 7], [6, 7, 8], [], [10], [6, 7, 8, 9, 10, 11], [6, 7, 8, 9, 10, 11, 12], [], [14], [6, 7, 8, 9, 10, 11, 12, 13, 14, 15], [0, 1, 2, 3, 4, 5, 6, 7, 8, 9, 10, 11, 12, 13, 14, 15, 16], [0, 1, 2, 3, 4, 5, 6, 7, 8, 9, 10, 11, 12, 13, 14, 15, 16, 17]] (fun (b : Nat → Bool) => mk 203 [1000] [(0, .ptr 1000 0 0), (3, .ptr 3 0 0), (4, .ptr 25000 k2 0), (42, (if b 0 then .ptr 25000 k2 0 else .junk)), (43, (if b 1 then .ptr 25000 k2 0 else .junk)), (44, (if b 2 then .ptr 25000 k2 3 else .junk)), (45, (if b 18 then .ref 9024 0 l28.length else (if b 3 then .ref 9024 0 x22.Match.length else .junk))), (46, (if b 4 then .ptr 3 0 1 else .junk)), (47, (if b 5 then .i a1.From else .junk)), (48, (if b 6 then .ptr 25000 k2 0 else .junk)), (49, (if b 7 then .ptr 25000 k2 0 else .junk)), (50, (if b 8 then .ptr 25000 k2 3 else .junk)), (51, (if b 18 then .ref 9024 0 l28.length else (if b 9 then .ref 9024 0 x22.Match.length else .junk))), (52, (if b 10 then .ptr 3 0 1 else .junk)), (53, (if b 11 then .i a1.From else .junk)), (54, (if b 12 then .ptr 9024 k26 0 else .junk)), (55, (if b 13 then .i x25 else .junk)), (56, (if b 14 then .ptr 3 0 4 else .junk)), (57, (if b 15 then .i a1.Index else .junk)), (58, (if b 16 then .i v27 else .junk)), (59, (if b 17 then .ptr 9024 k26 0 else .junk))] [(3, some (.box [.i a1.Kind, .i a1.From, .i a1.To, .i a1.Term, .i a1.Index, .i a1.PrevTerm, .i a1.Commit, .d (.sl (a1.Entries.map cS64))])), (1000, some (.box [.ref 25000 0 a0.Servers.length, .ref 25001 0 a0.Leaders.length, .ref 25002 0 a0.Network.length])), (9023, R71 x22.Log), (9024, (if b 18 then R3 l28 else R3 x22.Match)), (25000, (if b 18 then some (.nest 68 4 [none, none, some (71, 2), some (3, 1)] (a0.Servers.map cS68) [(k2, [.i x22.Term, .i x22.Commit, .ref 9023 0 x22.Log.length, .ref 9024 0 l28.length])]) else some (.nest 68 4 [none, none, some (71, 2), some (3, 1)] (a0.Servers.map cS68) [(k2, [.i x22.Term, .i x22.Commit, .ref 9023 0 x22.Log.length, .ref 9024 0 x22.Match.length])]))), (25001, R3 a0.Leaders), (25002, R47 a0.Network)]) (mk 203 [1000] [(0, .ptr 1000 0 0), (3, .ptr 3 0 0)] [(3, some (.box [.i a1.Kind, .i a1.From, .i a1.To, .i a1.Term, .i a1.Index, .i a1.PrevTerm, .i a1.Commit, .d (.sl (a1.Entries.map cS64))])), (1000, some (.box [.ref 25000 0 a0.Servers.length, .ref 25001 0 a0.Leaders.length, .ref 25002 0 a0.Network.length])), (9023, R71 x22.Log), (9024, R3 l28), (25000, some (.nest 68 4 [none, none, some (71, 2), some (3, 1)] (a0.Servers.map cS68) [(k2, [.i x22.Term, .i x22.Commit, .ref 9023 0 x22.Log.length, .ref 9024 0 l28.length])])), (25001, R3 a0.Leaders), (25002, R47 a0.Network)]) (by kernel_rfl) (by kernel_rfl) Sub.tt (Steps.cons ?_ (Steps.cons ?_ (Steps.cons ?_ (Steps.cons ?_ (Steps.cons ?_ (Steps.cons ?_ (Steps.cons ?_ (Steps.cons ?_ (Steps.cons ?_ (Steps.cons ?_ (Steps.cons ?_ (Steps.cons ?_ (Steps.cons ?_ (Steps.cons ?_ (Steps.cons ?_ (Steps.cons ?_ (Steps.cons ?_ (Steps.cons ?_ (Steps.cons ?_ (Steps.nil)))))))))))))))))))) ?_ ?_
   iterate 12
    ·intro b h0 ha hd
     have T := fct h0 ha hd; simp at T
     refine .runK [] 1 fun K k => ?_; simp [T]; refine k _ _ ?_; clear k K
     exact .nil (.table (by simp [T]) (by simp [T]))
   ·intro b h0 ha hd
    have T := fct h0 ha hd; simp at T
    refine .runK [] 1 fun K k => ?_; simp [T, hx25k, hx25a, hx25b]; refine k _ _ ?_; clear k K
    exact .nil (.table (by simp [T]) (by simp [T]))
   ·intro b h0 ha hd
    have T := fct h0 ha hd; simp at T
    refine .runK [] 1 fun K k => ?_; simp [T, hx25]; refine k _ _ ?_; clear k K
    exact .nil (.table (by simp [T]) (by simp [T]))
   iterate 2
    ·intro b h0 ha hd
     have T := fct h0 ha hd; simp at T
     refine .runK [] 1 fun K k => ?_; simp [T]; refine k _ _ ?_; clear k K
     exact .nil (.table (by simp [T]) (by simp [T]))
   ·intro b h0 ha hd
    have T := fct h0 ha hd; simp at T
    refine .runK [] 1 fun K k => ?_; simp [T, hv27]; refine k _ _ ?_; clear k K
    exact .nil (.table (by simp [T]) (by simp [T]))
   ·intro b h0 ha hd
    have T := fct h0 ha hd; simp at T
    refine .runK [] 1 fun K k => ?_; simp [T, hx25k, hx25a, hx25b]; refine k _ _ ?_; clear k K
    exact .nil (.table (by simp [T]) (by simp [T]))
   ·intro b h0 ha hd
    have T := fct h0 ha hd; simp at T
    refine .runK [] 1 fun K k => ?_; simp [T, hx25, hl28]; refine k _ _ ?_; clear k K
    exact .nil (.table (by simp [T, hl28n]) (by simp [hl28n]))
   ·intro b hb
    have t0 := hb 0 (by decide)
    have t1 := hb 1 (by decide)
    have t2 := hb 2 (by decide)
    have t3 := hb 3 (by decide)
    have t4 := hb 4 (by decide)
    have t5 := hb 5 (by decide)
    have t6 := hb 6 (by decide)
    have t7 := hb 7 (by decide)
    have t8 := hb 8 (by decide)
    have t9 := hb 9 (by decide)
    have t10 := hb 10 (by decide)
    have t11 := hb 11 (by decide)
    have t12 := hb 12 (by decide)
    have t13 := hb 13 (by decide)
    have t14 := hb 14 (by decide)
    have t15 := hb 15 (by decide)
    have t16 := hb 16 (by decide)
    have t17 := hb 17 (by decide)
    have t18 := hb 18 (by decide)
    exact Sub.table (by simp [t0, t1, t2, t4, t5, t6, t7, t8, t10, t11, t12, t13, t14, t15, t16, t17, t18]) (by simp [t18])
   skip
   replace h := lsome h; obtain ⟨l29, gl29, h⟩ := h
   obtain ⟨hl29, hl29n⟩ := setI_some cS68 gl29 hx1k
   replace hl29 : (a0.Servers.map cS68).set k2 [.lit (.int .i64 x22.Term), .lit (.int .i64 x22.Commit), .sl (x22.Log.map cS64), .sl (l28.map (cI .i64))] = l29.map cS68 := hl29
   clear gl29
   refine .sub (show Go.Ab.Sub _ (mk 203 [1000] [(0, .ptr 1000 0 0), (3, .ptr 3 0 0)] (H8 a1 l29 a0)) from (Sub.trans (Sub.close 25000 k2 (e := [.lit (.int .i64 x22.Term), .lit (.int .i64 x22.Commit), .sl (x22.Log.map cS64), .sl (l28.map (cI .i64))]) (cs := [.i x22.Term, .i x22.Commit, .ref 9023 0 x22.Log.length, .ref 9024 0 l28.length]) (ks := [9023, 9024]) rfl rfl (by simp) (by decide) rfl) (by simp [hl29]; exact Sub.table (by simp) (by simp [hl29n])))) ?_
   refine .region ?_
   refine .runK [] 3 fun K k => ?_; simp; refine k _ _ ?_; clear k K
   refine .tt [(60, .ptr 1000 0 0), (62, .i a1.To)] (H9 l29 a0) ?_
   replace h := bsome h; obtain ⟨r30, hr30, h⟩ := h
   refine .callF (p27 N (S44.mk l29 a0.Leaders a0.Network) a1.To r30 hr30) [(1000, 1000), (25000, 25000), (25001, 25001), (25002, 25002)] [1000] [(1000, 1000), (25000, 25000), (25001, 25001), (25002, 25002)] [(1000, (.box [.ref 25000 0 r30.Servers.length, .ref 25001 0 r30.Leaders.length, .ref 25002 0 r30.Network.length])), (25000, (.nest 68 4 [none, none, some (71, 2), some (3, 1)] (r30.Servers.map cS68) [])), (25001, (.arr 3 1 (r30.Leaders.map (cI .i64)))), (25002, (.arr 47 8 (r30.Network.map cS73)))] (.tup []) (by simp) rfl (by simp <;> rfl) (by simp) (by simp) (by simp) (by simp) (by simp) ent27 (by simp) (by simp) (by simp) (by simp) (by simp) (by simp) ?_
   refine .st (mk 203 [1000] [(60, .ptr 1000 0 0), (62, .i a1.To), (63, .tup [])] (H4 r30)) ?_
   refine .nil ?_
   refine thenQ_normal ?_
   refine .ret ?_
   cases h
   refine blockQ.ret ?_
   refine thenQ_pass (by simp) ?_
   exact FinF.ret (by simp) (by simp)
  have c21_ : v15 = false := Bool.eq_false_iff.2 c21
  refine .condF (b := v15) rfl c21_ ?_
  refine .sub (.bool 41 (b := v15) rfl c21_) ?_
  refine .st (mk 203 [1000] (L25 k2) (H12 a1 a0)) ?_
  refine .skip ?_
  refine thenQ_normal ?_
  refine .ret ?_
  cases h
  refine blockQ.ret ?_
  refine thenQ_pass (by simp) ?_
  exact FinF.ret (by simp) (by simp)
 have c9_ : (a1.Kind == 2) = false := Bool.eq_false_iff.2 c9
 refine .condF (b := (a1.Kind == 2)) rfl c9_ ?_
 refine .sub (.bool 25 (b := (a1.Kind == 2)) rfl c9_) ?_
 refine .st (mk 203 [1000] (L11 k2 ++ [(25, .b false)]) (H12 a1 a0)) ?_
 refine .skip ?_
 refine blockQ.normal ?_
 refine thenQ_normal ?_
 refine .seqR ?_
 refine .runK [] 5 fun K k => ?_; simp; refine k _ _ ?_; clear k K
 refine .tt (L11 k2 ++ [(66, .i a1.Term), (68, .ptr 25000 k2 0)]) (H12 a1 a0) ?_
 replace h := bsome h; obtain ⟨x31, hx31, h⟩ := h
 obtain ⟨hx31, hx31a, hx31b⟩ := idx_some2 hx31 hx1k
 refine .sub (.open 25000 k2 [9032, 9033] (e := cS68 x31) rfl rfl (by simp [hx31]) rfl (by simp) rfl) ?_
 refine .st (mk 203 [1000] (L11 k2 ++ [(66, .i a1.Term), (68, .ptr 25000 k2 0)]) [(3, some (.box [.i a1.Kind, .i a1.From, .i a1.To, .i a1.Term, .i a1.Index, .i a1.PrevTerm, .i a1.Commit, .d (.sl (a1.Entries.map cS64))])), (1000, some (.box [.ref 25000 0 a0.Servers.length, .ref 25001 0 a0.Leaders.length, .ref 25002 0 a0.Network.length])), (9032, R71 x31.Log), (9033, R3 x31.Match), (25000, some (.nest 68 4 [none, none, some (71, 2), some (3, 1)] (a0.Servers.map cS68) [(k2, [.i x31.Term, .i x31.Commit, .ref 9032 0 x31.Log.length, .ref 9033 0 x31.Match.length])])), (25001, R3 a0.Leaders), (25002, R47 a0.Network)]) ?_
 refine .runK [] 1 fun K k => ?_; simp; refine k _ _ ?_; clear k K
 refine .tt [(0, .ptr 1000 0 0), (3, .ptr 3 0 0), (4, .ptr 25000 k2 0)] [(3, some (.box [.i a1.Kind, .i a1.From, .i a1.To, .i a1.Term, .i a1.Index, .i a1.PrevTerm, .i a1.Commit, .d (.sl (a1.Entries.map cS64))])), (1000, some (.box [.ref 25000 0 a0.Servers.length, .ref 25001 0 a0.Leaders.length, .ref 25002 0 a0.Network.length])), (9032, R71 x31.Log), (9033, R3 x31.Match), (25000, some (.nest 68 4 [none, none, some (71, 2), some (3, 1)] (a0.Servers.map cS68) [(k2, [.i a1.Term, .i x31.Commit, .ref 9032 0 x31.Log.length, .ref 9033 0 x31.Match.length])])), (25001, R3 a0.Leaders), (25002, R47 a0.Network)] ?_
 replace h := lsome h; obtain ⟨l34, gl34, h⟩ := h
 obtain ⟨hl34, hl34n⟩ := setI_some cS68 gl34 hx1k
 replace hl34 : (a0.Servers.map cS68).set k2 [.lit (.int .i64 a1.Term), .lit (.int .i64 x31.Commit), .sl (x31.Log.map cS64), .sl (x31.Match.map (cI .i64))] = l34.map cS68 := hl34
 clear gl34
 refine .sub (.close 25000 k2 (e := [.lit (.int .i64 a1.Term), .lit (.int .i64 x31.Commit), .sl (x31.Log.map cS64), .sl (x31.Match.map (cI .i64))]) (cs := [.d (.lit (.int .i64 a1.Term)), .d (.lit (.int .i64 x31.Commit)), .ref 9032 0 x31.Log.length, .ref 9033 0 x31.Match.length]) (ks := [9032, 9033]) rfl rfl (by simp) (by decide) rfl) ?_
 refine .sub (S' := mk 203 [1000] [(0, .ptr 1000 0 0), (3, .ptr 3 0 0), (4, .ptr 25000 k2 0)] (H8 a1 l34 a0)) (by simp [hl34]; exact Sub.table (by simp) (by simp [hl34n])) ?_
 refine .nil ?_
 refine .seq ?_
 replace h := bsome h; obtain ⟨v43, hj, h⟩ := h
 refine .cutQ (by kernel_rfl) (by kernel_rfl) (mk 203 [1000] (L11 k2 ++ [(96, .b v43)]) (H8 a1 l34 a0)) ?_ ?_
 ·clear h; have h := hj; clear hj
  refine .runQ 3 fun K k => ?_; simp; refine k _ _ ?_; clear k K
  refine .tt (L11 k2 ++ [(71, .ptr 25000 k2 2)]) (H8 a1 l34 a0) ?_
  replace h := bsome h; obtain ⟨x44, hx44, h⟩ := h
  obtain ⟨hx44, hx44a, hx44b⟩ := idx_some2 hx44 hx1k
  refine .sub (.open 25000 k2 [9045, 9046] (e := cS68 x44) rfl rfl (by simp [hx44]) rfl (by simp) rfl) ?_
  refine .st (mk 203 [1000] (L11 k2 ++ [(71, .ptr 25000 k2 2)]) [(3, some (.box [.i a1.Kind, .i a1.From, .i a1.To, .i a1.Term, .i a1.Index, .i a1.PrevTerm, .i a1.Commit, .d (.sl (a1.Entries.map cS64))])), (1000, some (.box [.ref 25000 0 l34.length, .ref 25001 0 a0.Leaders.length, .ref 25002 0 a0.Network.length])), (9045, R71 x44.Log), (9046, R3 x44.Match), (25000, some (.nest 68 4 [none, none, some (71, 2), some (3, 1)] (l34.map cS68) [(k2, [.i x44.Term, .i x44.Commit, .ref 9045 0 x44.Log.length, .ref 9046 0 x44.Match.length])])), (25001, R3 a0.Leaders), (25002, R47 a0.Network)]) ?_
  refine .runQ 6 fun K k => ?_; simp; refine k _ _ ?_; clear k K
  refine .tt (L11 k2 ++ [(77, .b (decide ((x44.Log.length : Int) < a1.Index)))]) [(3, some (.box [.i a1.Kind, .i a1.From, .i a1.To, .i a1.Term, .i a1.Index, .i a1.PrevTerm, .i a1.Commit, .d (.sl (a1.Entries.map cS64))])), (1000, some (.box [.ref 25000 0 l34.length, .ref 25001 0 a0.Leaders.length, .ref 25002 0 a0.Network.length])), (9045, R71 x44.Log), (9046, R3 x44.Match), (25000, some (.nest 68 4 [none, none, some (71, 2), some (3, 1)] (l34.map cS68) [(k2, [.i x44.Term, .i x44.Commit, .ref 9045 0 x44.Log.length, .ref 9046 0 x44.Match.length])])), (25001, R3 a0.Leaders), (25002, R47 a0.Network)] ?_
  replace h := isome h; rcases h with ⟨c47, h⟩ | ⟨c47, h⟩
  ·have c47_ : decide ((x44.Log.length : Int) < a1.Index) = true := decide_eq_true c47
   refine .sub (.bool 77 (b := decide ((x44.Log.length : Int) < a1.Index)) rfl c47_) ?_
   refine .st (mk 203 [1000] (L11 k2 ++ [(77, .b true)]) [(3, some (.box [.i a1.Kind, .i a1.From, .i a1.To, .i a1.Term, .i a1.Index, .i a1.PrevTerm, .i a1.Commit, .d (.sl (a1.Entries.map cS64))])), (1000, some (.box [.ref 25000 0 l34.length, .ref 25001 0 a0.Leaders.length, .ref 25002 0 a0.Network.length])), (9045, R71 x44.Log), (9046, R3 x44.Match), (25000, some (.nest 68 4 [none, none, some (71, 2), some (3, 1)] (l34.map cS68) [(k2, [.i x44.Term, .i x44.Commit, .ref 9045 0 x44.Log.length, .ref 9046 0 x44.Match.length])])), (25001, R3 a0.Leaders), (25002, R47 a0.Network)]) ?_
   refine .runQ 19 fun K k => ?_; simp; refine k _ _ ?_; clear k K
   refine .tt (L26 k2) [(3, some (.box [.i a1.Kind, .i a1.From, .i a1.To, .i a1.Term, .i a1.Index, .i a1.PrevTerm, .i a1.Commit, .d (.sl (a1.Entries.map cS64))])), (1000, some (.box [.ref 25000 0 l34.length, .ref 25001 0 a0.Leaders.length, .ref 25002 0 a0.Network.length])), (9045, R71 x44.Log), (9046, R3 x44.Match), (25000, some (.nest 68 4 [none, none, some (71, 2), some (3, 1)] (l34.map cS68) [(k2, [.i x44.Term, .i x44.Commit, .ref 9045 0 x44.Log.length, .ref 9046 0 x44.Match.length])])), (25001, R3 a0.Leaders), (25002, R47 a0.Network)] ?_
   refine .sub (.closeSame 25000 k2 (e := cS68 x44) (cs := [.d (.lit (.int .i64 x44.Term)), .d (.lit (.int .i64 x44.Commit)), .ref 9045 0 x44.Log.length, .ref 9046 0 x44.Match.length]) (ks := [9045, 9046]) rfl rfl (by simp [hx44]) (by simp) (by decide) rfl) ?_
   refine .sub (S' := mk 203 [1000] (L26 k2) (H8 a1 l34 a0)) (by simp; exact Sub.table (by simp) (by simp)) ?_
   cases h
   exact .nil .tt
  have c47_ : decide ((x44.Log.length : Int) < a1.Index) = false := decide_eq_false c47
  refine .sub (.bool 77 (b := decide ((x44.Log.length : Int) < a1.Index)) rfl c47_) ?_
  refine .st (mk 203 [1000] (L27 k2) [(3, some (.box [.i a1.Kind, .i a1.From, .i a1.To, .i a1.Term, .i a1.Index, .i a1.PrevTerm, .i a1.Commit, .d (.sl (a1.Entries.map cS64))])), (1000, some (.box [.ref 25000 0 l34.length, .ref 25001 0 a0.Leaders.length, .ref 25002 0 a0.Network.length])), (9045, R71 x44.Log), (9046, R3 x44.Match), (25000, some (.nest 68 4 [none, none, some (71, 2), some (3, 1)] (l34.map cS68) [(k2, [.i x44.Term, .i x44.Commit, .ref 9045 0 x44.Log.length, .ref 9046 0 x44.Match.length])])), (25001, R3 a0.Leaders), (25002, R47 a0.Network)]) ?_
  refine .runQ 4 fun K k => ?_; simp; refine k _ _ ?_; clear k K
  refine .tt (L27 k2 ++ [(81, .b (decide (a1.Index > 0)))]) [(3, some (.box [.i a1.Kind, .i a1.From, .i a1.To, .i a1.Term, .i a1.Index, .i a1.PrevTerm, .i a1.Commit, .d (.sl (a1.Entries.map cS64))])), (1000, some (.box [.ref 25000 0 l34.length, .ref 25001 0 a0.Leaders.length, .ref 25002 0 a0.Network.length])), (9045, R71 x44.Log), (9046, R3 x44.Match), (25000, some (.nest 68 4 [none, none, some (71, 2), some (3, 1)] (l34.map cS68) [(k2, [.i x44.Term, .i x44.Commit, .ref 9045 0 x44.Log.length, .ref 9046 0 x44.Match.length])])), (25001, R3 a0.Leaders), (25002, R47 a0.Network)] ?_
  replace h := isome h; rcases h with ⟨c48, h⟩ | ⟨c48, h⟩
  ·have c48_ : decide (a1.Index > 0) = true := decide_eq_true c48
   refine .sub (.bool 81 (b := decide (a1.Index > 0)) rfl c48_) ?_
   refine .st (mk 203 [1000] (L27 k2 ++ [(81, .b true)]) [(3, some (.box [.i a1.Kind, .i a1.From, .i a1.To, .i a1.Term, .i a1.Index, .i a1.PrevTerm, .i a1.Commit, .d (.sl (a1.Entries.map cS64))])), (1000, some (.box [.ref 25000 0 l34.length, .ref 25001 0 a0.Leaders.length, .ref 25002 0 a0.Network.length])), (9045, R71 x44.Log), (9046, R3 x44.Match), (25000, some (.nest 68 4 [none, none, some (71, 2), some (3, 1)] (l34.map cS68) [(k2, [.i x44.Term, .i x44.Commit, .ref 9045 0 x44.Log.length, .ref 9046 0 x44.Match.length])])), (25001, R3 a0.Leaders), (25002, R47 a0.Network)]) ?_
   replace h := bsome h; obtain ⟨v49, hv49, h⟩ := h
   have hv49 := chkI_some hv49
   replace h := bsome h; obtain ⟨x50, hx50, h⟩ := h
   obtain ⟨k51, hx50k, hx50, hx50a, hx50b⟩ := idx_some hx50
   refine .runQ 15 fun K k => ?_; simp [hv49, hx50, hx50k, hx50a, hx50b]; refine k _ _ ?_; clear k K
   refine .tt (L11 k2 ++ [(96, .b (x50.Term != a1.PrevTerm))]) [(3, some (.box [.i a1.Kind, .i a1.From, .i a1.To, .i a1.Term, .i a1.Index, .i a1.PrevTerm, .i a1.Commit, .d (.sl (a1.Entries.map cS64))])), (1000, some (.box [.ref 25000 0 l34.length, .ref 25001 0 a0.Leaders.length, .ref 25002 0 a0.Network.length])), (9045, R71 x44.Log), (9046, R3 x44.Match), (25000, some (.nest 68 4 [none, none, some (71, 2), some (3, 1)] (l34.map cS68) [(k2, [.i x44.Term, .i x44.Commit, .ref 9045 0 x44.Log.length, .ref 9046 0 x44.Match.length])])), (25001, R3 a0.Leaders), (25002, R47 a0.Network)] ?_
   refine .sub (.closeSame 25000 k2 (e := cS68 x44) (cs := [.d (.lit (.int .i64 x44.Term)), .d (.lit (.int .i64 x44.Commit)), .ref 9045 0 x44.Log.length, .ref 9046 0 x44.Match.length]) (ks := [9045, 9046]) rfl rfl (by simp [hx44]) (by simp) (by decide) rfl) ?_
   refine .sub (S' := mk 203 [1000] (L11 k2 ++ [(96, .b (x50.Term != a1.PrevTerm))]) (H8 a1 l34 a0)) (by simp; exact Sub.table (by simp) (by simp)) ?_
   cases h
   exact .nil .tt
  have c48_ : decide (a1.Index > 0) = false := decide_eq_false c48
  refine .sub (.bool 81 (b := decide (a1.Index > 0)) rfl c48_) ?_
  refine .st (mk 203 [1000] (L27 k2 ++ [(81, .b false)]) [(3, some (.box [.i a1.Kind, .i a1.From, .i a1.To, .i a1.Term, .i a1.Index, .i a1.PrevTerm, .i a1.Commit, .d (.sl (a1.Entries.map cS64))])), (1000, some (.box [.ref 25000 0 l34.length, .ref 25001 0 a0.Leaders.length, .ref 25002 0 a0.Network.length])), (9045, R71 x44.Log), (9046, R3 x44.Match), (25000, some (.nest 68 4 [none, none, some (71, 2), some (3, 1)] (l34.map cS68) [(k2, [.i x44.Term, .i x44.Commit, .ref 9045 0 x44.Log.length, .ref 9046 0 x44.Match.length])])), (25001, R3 a0.Leaders), (25002, R47 a0.Network)]) ?_
  refine .runQ 15 fun K k => ?_; simp; refine k _ _ ?_; clear k K
  refine .tt (L28 k2) [(3, some (.box [.i a1.Kind, .i a1.From, .i a1.To, .i a1.Term, .i a1.Index, .i a1.PrevTerm, .i a1.Commit, .d (.sl (a1.Entries.map cS64))])), (1000, some (.box [.ref 25000 0 l34.length, .ref 25001 0 a0.Leaders.length, .ref 25002 0 a0.Network.length])), (9045, R71 x44.Log), (9046, R3 x44.Match), (25000, some (.nest 68 4 [none, none, some (71, 2), some (3, 1)] (l34.map cS68) [(k2, [.i x44.Term, .i x44.Commit, .ref 9045 0 x44.Log.length, .ref 9046 0 x44.Match.length])])), (25001, R3 a0.Leaders), (25002, R47 a0.Network)] ?_
  refine .sub (.closeSame 25000 k2 (e := cS68 x44) (cs := [.d (.lit (.int .i64 x44.Term)), .d (.lit (.int .i64 x44.Commit)), .ref 9045 0 x44.Log.length, .ref 9046 0 x44.Match.length]) (ks := [9045, 9046]) rfl rfl (by simp [hx44]) (by simp) (by decide) rfl) ?_
  refine .sub (S' := mk 203 [1000] (L28 k2) (H8 a1 l34 a0)) (by simp; exact Sub.table (by simp) (by simp)) ?_
  cases h
  exact .nil .tt
 clear hj
 replace h := isome h; rcases h with ⟨c52, h⟩ | ⟨c52, h⟩
 ·have c52_ : v43 = true := c52
  refine .condT (b := v43) rfl c52_ ?_
  refine .sub (.bool 96 (b := v43) rfl c52_) ?_
  refine .st (mk 203 [1000] (L26 k2) (H8 a1 l34 a0)) ?_
  refine .ret ?_
  cases h
  refine thenQ_pass (by simp) ?_
  exact FinF.ret (by simp) (by simp)
 have c52_ : v43 = false := Bool.eq_false_iff.2 c52
 refine .condF (b := v43) rfl c52_ ?_
 refine .sub (.bool 96 (b := v43) rfl c52_) ?_
 refine .st (mk 203 [1000] (L28 k2) (H8 a1 l34 a0)) ?_
 refine .skip ?_
 refine thenQ_normal ?_
 refine .seq ?_
 refine .seqR ?_
 refine .runK [] 4 fun K k => ?_; simp; refine k _ _ ?_; clear k K
 refine .tt (L11 k2 ++ [(98, .d (.sl (a1.Entries.map cS64))), (99, .i (a1.Entries.length : Int)), (100, .i 0)]) (H8 a1 l34 a0) ?_
 refine .nil ?_
 refine .lastN (fun (l215 : List S68) => mk 203 [1000] [(0, .ptr 1000 0 0), (3, .ptr 3 0 0), (4, .ptr 25000 k2 0)] (H8 a1 l215 a0)) h ?_ ?_ <;> clear h
 ·intro o h
  refine .block ?_
  refine .iter (fun ((l105, v106) : ((List S68) × Int)) => mk 203 [1000] (L29 k2 a1.Entries a1.Entries.length v106) (H8 a1 l105 a0)) h Sub.tt ?_
  clear h
  rintro ⟨l105, v106⟩ x h
  dsimp only at h ⊢
  refine .seqR ?_
  refine .runK [] 1 fun K k => ?_; simp; refine k _ _ ?_; clear k K
  refine .tt (L29 k2 a1.Entries a1.Entries.length v106 ++ [(101, .b (decide (v106 < (a1.Entries.length : Int))))]) (H8 a1 l105 a0) ?_
  refine .nil ?_
  refine .seq ?_
  replace h := isome h; rcases h with ⟨c216, h⟩ | ⟨c216, h⟩
  ·have c216_ : decide (v106 < (a1.Entries.length : Int)) = true := decide_eq_true c216
   refine .condT (b := decide (v106 < (a1.Entries.length : Int))) rfl c216_ ?_
   refine .sub (.bool 101 (b := decide (v106 < (a1.Entries.length : Int))) rfl c216_) ?_
   refine .st (mk 203 [1000] (L29 k2 a1.Entries a1.Entries.length v106 ++ [(101, .b true)]) (H8 a1 l105 a0)) ?_
   refine .skip ?_
   refine thenQ_normal ?_
   refine .seq ?_
   refine .block ?_
   refine .seqR ?_
   replace h := bsome h; obtain ⟨x217, hx217, h⟩ := h
   obtain ⟨k218, hx217k, hx217, hx217a, hx217b⟩ := idx_some hx217
   refine .runK [] 6 fun K k => ?_; simp [hx217, hx217k, hx217a]; refine k _ _ ?_; clear k K
   refine .tt (L11 k2 ++ [(5, .i v106), (6, .ptr 6 0 0), (98, .d (.sl (a1.Entries.map cS64))), (99, .i (a1.Entries.length : Int)), (100, .i v106)]) (H15 a1 x217 l105 a0) ?_
   refine .nil ?_
   refine .seqR ?_
   replace h := bsome h; obtain ⟨v219, hv219, h⟩ := h
   have hv219 := chkI_some hv219
   refine .runK [] 5 fun K k => ?_; simp [hv219]; refine k _ _ ?_; clear k K
   refine .tt (L30 k2 v219 a1.Entries a1.Entries.length v106) (H15 a1 x217 l105 a0) ?_
   refine .nil ?_
   refine .seq ?_
   replace h := bsome h; obtain ⟨v232, hj, h⟩ := h
   refine .cutQ (by kernel_rfl) (by kernel_rfl) (mk 203 [1000] (L30 k2 v219 a1.Entries a1.Entries.length v106 ++ [(128, .b v232)]) (H15 a1 x217 l105 a0)) ?_ ?_
   ·clear h; have h := hj; clear hj
    refine .runQ 4 fun K k => ?_; simp; refine k _ _ ?_; clear k K
    refine .tt (L30 k2 v219 a1.Entries a1.Entries.length v106 ++ [(109, .i v219), (112, .ptr 25000 k2 2)]) (H15 a1 x217 l105 a0) ?_
    replace h := bsome h; obtain ⟨x233, hx233, h⟩ := h
    obtain ⟨hx233, hx233a, hx233b⟩ := idx_some2 hx233 hx1k
    refine .sub (.open 25000 k2 [9234, 9235] (e := cS68 x233) rfl rfl (by simp [hx233]) rfl (by simp) rfl) ?_
    refine .st (mk 203 [1000] (L30 k2 v219 a1.Entries a1.Entries.length v106 ++ [(109, .i v219), (112, .ptr 25000 k2 2)]) [(3, some (.box [.i a1.Kind, .i a1.From, .i a1.To, .i a1.Term, .i a1.Index, .i a1.PrevTerm, .i a1.Commit, .d (.sl (a1.Entries.map cS64))])), (6, some (.box [.i x217.Term, .d (.lit (.string x217.Payload))])), (1000, some (.box [.ref 25000 0 l105.length, .ref 25001 0 a0.Leaders.length, .ref 25002 0 a0.Network.length])), (9234, R71 x233.Log), (9235, R3 x233.Match), (25000, some (.nest 68 4 [none, none, some (71, 2), some (3, 1)] (l105.map cS68) [(k2, [.i x233.Term, .i x233.Commit, .ref 9234 0 x233.Log.length, .ref 9235 0 x233.Match.length])])), (25001, R3 a0.Leaders), (25002, R47 a0.Network)]) ?_
    refine .runQ 4 fun K k => ?_; simp; refine k _ _ ?_; clear k K
    refine .tt (L30 k2 v219 a1.Entries a1.Entries.length v106 ++ [(116, .b (decide (v219 < (x233.Log.length : Int))))]) [(3, some (.box [.i a1.Kind, .i a1.From, .i a1.To, .i a1.Term, .i a1.Index, .i a1.PrevTerm, .i a1.Commit, .d (.sl (a1.Entries.map cS64))])), (6, some (.box [.i x217.Term, .d (.lit (.string x217.Payload))])), (1000, some (.box [.ref 25000 0 l105.length, .ref 25001 0 a0.Leaders.length, .ref 25002 0 a0.Network.length])), (9234, R71 x233.Log), (9235, R3 x233.Match), (25000, some (.nest 68 4 [none, none, some (71, 2), some (3, 1)] (l105.map cS68) [(k2, [.i x233.Term, .i x233.Commit, .ref 9234 0 x233.Log.length, .ref 9235 0 x233.Match.length])])), (25001, R3 a0.Leaders), (25002, R47 a0.Network)] ?_
    replace h := isome h; rcases h with ⟨c236, h⟩ | ⟨c236, h⟩
    ·have c236_ : decide (v219 < (x233.Log.length : Int)) = true := decide_eq_true c236
     refine .sub (.bool 116 (b := decide (v219 < (x233.Log.length : Int))) rfl c236_) ?_
     refine .st (mk 203 [1000] (L30 k2 v219 a1.Entries a1.Entries.length v106 ++ [(116, .b true)]) [(3, some (.box [.i a1.Kind, .i a1.From, .i a1.To, .i a1.Term, .i a1.Index, .i a1.PrevTerm, .i a1.Commit, .d (.sl (a1.Entries.map cS64))])), (6, some (.box [.i x217.Term, .d (.lit (.string x217.Payload))])), (1000, some (.box [.ref 25000 0 l105.length, .ref 25001 0 a0.Leaders.length, .ref 25002 0 a0.Network.length])), (9234, R71 x233.Log), (9235, R3 x233.Match), (25000, some (.nest 68 4 [none, none, some (71, 2), some (3, 1)] (l105.map cS68) [(k2, [.i x233.Term, .i x233.Commit, .ref 9234 0 x233.Log.length, .ref 9235 0 x233.Match.length])])), (25001, R3 a0.Leaders), (25002, R47 a0.Network)]) ?_
     replace h := bsome h; obtain ⟨x237, hx237, h⟩ := h
     obtain ⟨k238, hx237k, hx237, hx237a, hx237b⟩ := idx_some hx237
     refine .runQ 12 fun K k => ?_; simp [hx237, hx237k, hx237a, hx237b]; refine k _ _ ?_; clear k K
     refine .tt (L30 k2 v219 a1.Entries a1.Entries.length v106 ++ [(117, .ptr 25000 k2 0), (118, .ptr 25000 k2 0), (119, .ptr 25000 k2 2), (120, .ref 9234 0 x233.Log.length), (121, .i v219), (122, .ptr 9234 k238 0), (123, .ptr 9234 k238 0), (124, .i x237.Term), (125, .ptr 6 0 0), (126, .i x217.Term), (127, .b (x237.Term != x217.Term)), (128, .b (x237.Term != x217.Term))]) [(3, some (.box [.i a1.Kind, .i a1.From, .i a1.To, .i a1.Term, .i a1.Index, .i a1.PrevTerm, .i a1.Commit, .d (.sl (a1.Entries.map cS64))])), (6, some (.box [.i x217.Term, .d (.lit (.string x217.Payload))])), (1000, some (.box [.ref 25000 0 l105.length, .ref 25001 0 a0.Leaders.length, .ref 25002 0 a0.Network.length])), (9234, R71 x233.Log), (9235, R3 x233.Match), (25000, some (.nest 68 4 [none, none, some (71, 2), some (3, 1)] (l105.map cS68) [(k2, [.i x233.Term, .i x233.Commit, .ref 9234 0 x233.Log.length, .ref 9235 0 x233.Match.length])])), (25001, R3 a0.Leaders), (25002, R47 a0.Network)] ?_
     refine .sub (.closeSame 25000 k2 (e := cS68 x233) (cs := [.d (.lit (.int .i64 x233.Term)), .d (.lit (.int .i64 x233.Commit)), .ref 9234 0 x233.Log.length, .ref 9235 0 x233.Match.length]) (ks := [9234, 9235]) rfl rfl (by simp [hx233]) (by simp) (by decide) rfl) ?_
     refine .sub (S' := mk 203 [1000] (L30 k2 v219 a1.Entries a1.Entries.length v106 ++ [(117, .ptr 25000 k2 0), (118, .ptr 25000 k2 0), (119, .ptr 25000 k2 2), (121, .i v219), (124, .i x237.Term), (125, .ptr 6 0 0), (126, .i x217.Term), (127, .b (x237.Term != x217.Term)), (128, .b (x237.Term != x217.Term))]) (H15 a1 x217 l105 a0)) (by simp; exact Sub.table (by simp) (by simp)) ?_
     cases h
     exact .nil .tt
    have c236_ : decide (v219 < (x233.Log.length : Int)) = false := decide_eq_false c236
    refine .sub (.bool 116 (b := decide (v219 < (x233.Log.length : Int))) rfl c236_) ?_
    refine .st (mk 203 [1000] (L30 k2 v219 a1.Entries a1.Entries.length v106 ++ [(116, .b false)]) [(3, some (.box [.i a1.Kind, .i a1.From, .i a1.To, .i a1.Term, .i a1.Index, .i a1.PrevTerm, .i a1.Commit, .d (.sl (a1.Entries.map cS64))])), (6, some (.box [.i x217.Term, .d (.lit (.string x217.Payload))])), (1000, some (.box [.ref 25000 0 l105.length, .ref 25001 0 a0.Leaders.length, .ref 25002 0 a0.Network.length])), (9234, R71 x233.Log), (9235, R3 x233.Match), (25000, some (.nest 68 4 [none, none, some (71, 2), some (3, 1)] (l105.map cS68) [(k2, [.i x233.Term, .i x233.Commit, .ref 9234 0 x233.Log.length, .ref 9235 0 x233.Match.length])])), (25001, R3 a0.Leaders), (25002, R47 a0.Network)]) ?_
    refine .runQ 12 fun K k => ?_; simp; refine k _ _ ?_; clear k K
    refine .tt (L30 k2 v219 a1.Entries a1.Entries.length v106 ++ [(117, .tup []), (118, .tup []), (119, .tup []), (120, .tup []), (121, .tup []), (122, .tup []), (123, .tup []), (124, .tup []), (125, .tup []), (126, .tup []), (127, .tup []), (128, .b false)]) [(3, some (.box [.i a1.Kind, .i a1.From, .i a1.To, .i a1.Term, .i a1.Index, .i a1.PrevTerm, .i a1.Commit, .d (.sl (a1.Entries.map cS64))])), (6, some (.box [.i x217.Term, .d (.lit (.string x217.Payload))])), (1000, some (.box [.ref 25000 0 l105.length, .ref 25001 0 a0.Leaders.length, .ref 25002 0 a0.Network.length])), (9234, R71 x233.Log), (9235, R3 x233.Match), (25000, some (.nest 68 4 [none, none, some (71, 2), some (3, 1)] (l105.map cS68) [(k2, [.i x233.Term, .i x233.Commit, .ref 9234 0 x233.Log.length, .ref 9235 0 x233.Match.length])])), (25001, R3 a0.Leaders), (25002, R47 a0.Network)] ?_
    refine .sub (.closeSame 25000 k2 (e := cS68 x233) (cs := [.d (.lit (.int .i64 x233.Term)), .d (.lit (.int .i64 x233.Commit)), .ref 9234 0 x233.Log.length, .ref 9235 0 x233.Match.length]) (ks := [9234, 9235]) rfl rfl (by simp [hx233]) (by simp) (by decide) rfl) ?_
    refine .sub (S' := mk 203 [1000] (L30 k2 v219 a1.Entries a1.Entries.length v106 ++ [(117, .tup []), (118, .tup []), (119, .tup []), (120, .tup []), (121, .tup []), (122, .tup []), (123, .tup []), (124, .tup []), (125, .tup []), (126, .tup []), (127, .tup []), (128, .b false)]) (H15 a1 x217 l105 a0)) (by simp; exact Sub.table (by simp) (by simp)) ?_
    cases h
    exact .nil .tt
   clear hj
   refine .lastN (fun ((l247, v248) : ((List S68) × Int)) => mk 203 [1000] (L30 k2 v248 a1.Entries a1.Entries.length v106) (H15 a1 x217 l247 a0)) h ?_ ?_ <;> clear h
   ·intro o h
    replace h := isome h; rcases h with ⟨c249, h⟩ | ⟨c249, h⟩
    ·have c249_ : v232 = true := c249
     refine .condT (b := v232) rfl c249_ ?_
     refine .sub (.bool 128 (b := v232) rfl c249_) ?_
     refine .st (mk 203 [1000] (L30 k2 v219 a1.Entries a1.Entries.length v106 ++ [(128, .b true)]) (H15 a1 x217 l105 a0)) ?_
     refine .region ?_
     refine .runK [] 5 fun K k => ?_; simp; refine k _ _ ?_; clear k K
     refine .tt (L30 k2 v219 a1.Entries a1.Entries.length v106 ++ [(129, .ptr 25000 k2 0), (130, .ref 130 0 (([] : List S64).length)), (133, .ptr 25000 k2 2)]) [(3, some (.box [.i a1.Kind, .i a1.From, .i a1.To, .i a1.Term, .i a1.Index, .i a1.PrevTerm, .i a1.Commit, .d (.sl (a1.Entries.map cS64))])), (6, some (.box [.i x217.Term, .d (.lit (.string x217.Payload))])), (130, R71 ([] : List S64)), (1000, some (.box [.ref 25000 0 l105.length, .ref 25001 0 a0.Leaders.length, .ref 25002 0 a0.Network.length])), (25000, some (.nest 68 4 [none, none, some (71, 2), some (3, 1)] (l105.map cS68) [])), (25001, R3 a0.Leaders), (25002, R47 a0.Network)] ?_
     replace h := bsome h; obtain ⟨x250, hx250, h⟩ := h
     obtain ⟨hx250, hx250a, hx250b⟩ := idx_some2 hx250 hx1k
     refine .sub (.open 25000 k2 [9251, 9252] (e := cS68 x250) rfl rfl (by simp [hx250]) rfl (by simp) rfl) ?_
     refine .st (mk 203 [1000] (L30 k2 v219 a1.Entries a1.Entries.length v106 ++ [(129, .ptr 25000 k2 0), (130, .ref 130 0 (([] : List S64).length)), (133, .ptr 25000 k2 2)]) [(3, some (.box [.i a1.Kind, .i a1.From, .i a1.To, .i a1.Term, .i a1.Index, .i a1.PrevTerm, .i a1.Commit, .d (.sl (a1.Entries.map cS64))])), (6, some (.box [.i x217.Term, .d (.lit (.string x217.Payload))])), (130, R71 ([] : List S64)), (1000, some (.box [.ref 25000 0 l105.length, .ref 25001 0 a0.Leaders.length, .ref 25002 0 a0.Network.length])), (9251, R71 x250.Log), (9252, R3 x250.Match), (25000, some (.nest 68 4 [none, none, some (71, 2), some (3, 1)] (l105.map cS68) [(k2, [.i x250.Term, .i x250.Commit, .ref 9251 0 x250.Log.length, .ref 9252 0 x250.Match.length])])), (25001, R3 a0.Leaders), (25002, R47 a0.Network)]) ?_
     replace h := bsome h; obtain ⟨n253, gn253, h⟩ := h
     obtain ⟨hn253a, hn253⟩ := natI_some gn253
     clear gn253
     subst hn253a
     refine .runK [] 3 fun K k => ?_; simp [hn253]; refine k _ _ ?_; clear k K
     refine .tt (L11 k2 ++ [(6, .ptr 6 0 0), (7, .i (n253 : Int)), (98, .d (.sl (a1.Entries.map cS64))), (99, .i (a1.Entries.length : Int)), (100, .i v106), (129, .ptr 25000 k2 0), (130, .ref 130 0 (([] : List S64).length)), (136, .ref 9251 0 n253)]) [(3, some (.box [.i a1.Kind, .i a1.From, .i a1.To, .i a1.Term, .i a1.Index, .i a1.PrevTerm, .i a1.Commit, .d (.sl (a1.Entries.map cS64))])), (6, some (.box [.i x217.Term, .d (.lit (.string x217.Payload))])), (130, R71 ([] : List S64)), (1000, some (.box [.ref 25000 0 l105.length, .ref 25001 0 a0.Leaders.length, .ref 25002 0 a0.Network.length])), (9251, R71 x250.Log), (9252, R3 x250.Match), (25000, some (.nest 68 4 [none, none, some (71, 2), some (3, 1)] (l105.map cS68) [(k2, [.i x250.Term, .i x250.Commit, .ref 9251 0 x250.Log.length, .ref 9252 0 x250.Match.length])])), (25001, R3 a0.Leaders), (25002, R47 a0.Network)] ?_
     replace h := lsome h; obtain ⟨l254, gl254, h⟩ := h
     have hl254k : n253 = l254.length := by rw [← gl254, List.length_take]; omega
     subst hl254k
     have hl254 : (x250.Log.map cS64).take l254.length = l254.map cS64 := by rw [← List.map_take, gl254]
     clear gl254
     refine .sub (.cut 9251 l254.length rfl) ?_
     refine .sub (S' := mk 203 [1000] (L31 k2 l254.length a1.Entries a1.Entries.length v106 ++ [(129, .ptr 25000 k2 0), (130, .ref 130 0 (([] : List S64).length)), (136, .ref 9251 0 l254.length)]) [(3, some (.box [.i a1.Kind, .i a1.From, .i a1.To, .i a1.Term, .i a1.Index, .i a1.PrevTerm, .i a1.Commit, .d (.sl (a1.Entries.map cS64))])), (6, some (.box [.i x217.Term, .d (.lit (.string x217.Payload))])), (130, R71 ([] : List S64)), (1000, some (.box [.ref 25000 0 l105.length, .ref 25001 0 a0.Leaders.length, .ref 25002 0 a0.Network.length])), (9251, R71 l254), (9252, R3 x250.Match), (25000, some (.nest 68 4 [none, none, some (71, 2), some (3, 1)] (l105.map cS68) [(k2, [.i x250.Term, .i x250.Commit, .ref 9251 0 x250.Log.length, .ref 9252 0 x250.Match.length])])), (25001, R3 a0.Leaders), (25002, R47 a0.Network)]) (by simp [hl254]; exact Sub.table (by simp) (by simp)) ?_
     replace h := bsome h; obtain ⟨l255, hl255, h⟩ := h
     obtain ⟨hl255a, hl255⟩ := appL_some hl255
     subst hl255
     try simp only [List.length_nil, Nat.zero_add] at hl255a
     refine .runK [] 4 fun K k => ?_; simp [hl255a]; refine k _ _ ?_; clear k K
     refine .sub (S' := mk 203 [1000] (L31 k2 l254.length a1.Entries a1.Entries.length v106) [(3, some (.box [.i a1.Kind, .i a1.From, .i a1.To, .i a1.Term, .i a1.Index, .i a1.PrevTerm, .i a1.Commit, .d (.sl (a1.Entries.map cS64))])), (6, some (.box [.i x217.Term, .d (.lit (.string x217.Payload))])), (130, R71 l254), (1000, some (.box [.ref 25000 0 l105.length, .ref 25001 0 a0.Leaders.length, .ref 25002 0 a0.Network.length])), (9252, R3 x250.Match), (25000, some (.nest 68 4 [none, none, some (71, 2), some (3, 1)] (l105.map cS68) [(k2, [.i x250.Term, .i x250.Commit, .ref 130 0 l254.length, .ref 9252 0 x250.Match.length])])), (25001, R3 a0.Leaders), (25002, R47 a0.Network)]) (Sub.table (by simp) (by simp)) ?_
     replace h := lsome h; obtain ⟨l256, gl256, h⟩ := h
     obtain ⟨hl256, hl256n⟩ := setI_some cS68 gl256 hx1k
     replace hl256 : (l105.map cS68).set k2 [.lit (.int .i64 x250.Term), .lit (.int .i64 x250.Commit), .sl (l254.map cS64), .sl (x250.Match.map (cI .i64))] = l256.map cS68 := hl256
     clear gl256
     refine .sub (.close 25000 k2 (e := [.lit (.int .i64 x250.Term), .lit (.int .i64 x250.Commit), .sl (l254.map cS64), .sl (x250.Match.map (cI .i64))]) (cs := [.d (.lit (.int .i64 x250.Term)), .d (.lit (.int .i64 x250.Commit)), .ref 130 0 l254.length, .ref 9252 0 x250.Match.length]) (ks := [130, 9252]) rfl rfl (by simp) (by decide) rfl) ?_
     refine .sub (S' := mk 203 [1000] (L31 k2 l254.length a1.Entries a1.Entries.length v106) (H15 a1 x217 l256 a0)) (by simp [hl256]; exact Sub.table (by simp) (by simp [hl256n])) ?_
     refine .nil ?_
     cases h
     refine PostN.next ?_
     exact Sub.tt
    have c249_ : v232 = false := Bool.eq_false_iff.2 c249
    refine .condF (b := v232) rfl c249_ ?_
    refine .sub (.bool 128 (b := v232) rfl c249_) ?_
    refine .st (mk 203 [1000] (L30 k2 v219 a1.Entries a1.Entries.length v106 ++ [(128, .b false)]) (H15 a1 x217 l105 a0)) ?_
    refine .skip ?_
    cases h
    refine PostN.next ?_
    exact Sub.tt
   rintro ⟨l247, v248⟩ h
   dsimp only at h ⊢
   refine thenQ_normal ?_
   refine .seqR ?_
   refine .runK [] 4 fun K k => ?_; simp; refine k _ _ ?_; clear k K
   refine .tt (L32 k2 a1.Entries a1.Entries.length v106 ++ [(140, .i v248), (143, .ptr 25000 k2 2)]) (H15 a1 x217 l247 a0) ?_
   replace h := bsome h; obtain ⟨x257, hx257, h⟩ := h
   obtain ⟨hx257, hx257a, hx257b⟩ := idx_some2 hx257 hx1k
   refine .sub (.open 25000 k2 [9258, 9259] (e := cS68 x257) rfl rfl (by simp [hx257]) rfl (by simp) rfl) ?_
   refine .st (mk 203 [1000] (L32 k2 a1.Entries a1.Entries.length v106 ++ [(140, .i v248), (143, .ptr 25000 k2 2)]) [(3, some (.box [.i a1.Kind, .i a1.From, .i a1.To, .i a1.Term, .i a1.Index, .i a1.PrevTerm, .i a1.Commit, .d (.sl (a1.Entries.map cS64))])), (6, some (.box [.i x217.Term, .d (.lit (.string x217.Payload))])), (1000, some (.box [.ref 25000 0 l247.length, .ref 25001 0 a0.Leaders.length, .ref 25002 0 a0.Network.length])), (9258, R71 x257.Log), (9259, R3 x257.Match), (25000, some (.nest 68 4 [none, none, some (71, 2), some (3, 1)] (l247.map cS68) [(k2, [.i x257.Term, .i x257.Commit, .ref 9258 0 x257.Log.length, .ref 9259 0 x257.Match.length])])), (25001, R3 a0.Leaders), (25002, R47 a0.Network)]) ?_
   refine .runK [] 3 fun K k => ?_; simp; refine k _ _ ?_; clear k K
   refine .tt (L32 k2 a1.Entries a1.Entries.length v106 ++ [(146, .b (v248 == (x257.Log.length : Int)))]) [(3, some (.box [.i a1.Kind, .i a1.From, .i a1.To, .i a1.Term, .i a1.Index, .i a1.PrevTerm, .i a1.Commit, .d (.sl (a1.Entries.map cS64))])), (6, some (.box [.i x217.Term, .d (.lit (.string x217.Payload))])), (1000, some (.box [.ref 25000 0 l247.length, .ref 25001 0 a0.Leaders.length, .ref 25002 0 a0.Network.length])), (9258, R71 x257.Log), (9259, R3 x257.Match), (25000, some (.nest 68 4 [none, none, some (71, 2), some (3, 1)] (l247.map cS68) [(k2, [.i x257.Term, .i x257.Commit, .ref 9258 0 x257.Log.length, .ref 9259 0 x257.Match.length])])), (25001, R3 a0.Leaders), (25002, R47 a0.Network)] ?_
   refine .sub (.closeSame 25000 k2 (e := cS68 x257) (cs := [.d (.lit (.int .i64 x257.Term)), .d (.lit (.int .i64 x257.Commit)), .ref 9258 0 x257.Log.length, .ref 9259 0 x257.Match.length]) (ks := [9258, 9259]) rfl rfl (by simp [hx257]) (by simp) (by decide) rfl) ?_
   refine .sub (S' := mk 203 [1000] (L32 k2 a1.Entries a1.Entries.length v106 ++ [(146, .b (v248 == (x257.Log.length : Int)))]) (H15 a1 x217 l247 a0)) (by simp; exact Sub.table (by simp) (by simp)) ?_
   refine .nil ?_
   replace h := isome h; rcases h with ⟨c260, h⟩ | ⟨c260, h⟩
   ·have c260_ : (v248 == (x257.Log.length : Int)) = true := c260
    refine .condT (b := (v248 == (x257.Log.length : Int))) rfl c260_ ?_
    refine .sub (.bool 146 (b := (v248 == (x257.Log.length : Int))) rfl c260_) ?_
    refine .st (mk 203 [1000] (L32 k2 a1.Entries a1.Entries.length v106 ++ [(146, .b true)]) (H15 a1 x217 l247 a0)) ?_
    replace h := bsome h; obtain ⟨x261, hx261, h⟩ := h
    obtain ⟨hx261, hx261a, hx261b⟩ := idx_some2 hx261 hx1k
    refine .sub (.open 25000 k2 [9262, 9263] (e := cS68 x261) rfl rfl (by simp [hx261]) rfl (by simp) rfl) ?_
    refine .st (mk 203 [1000] (L32 k2 a1.Entries a1.Entries.length v106 ++ [(146, .b true)]) [(3, some (.box [.i a1.Kind, .i a1.From, .i a1.To, .i a1.Term, .i a1.Index, .i a1.PrevTerm, .i a1.Commit, .d (.sl (a1.Entries.map cS64))])), (6, some (.box [.i x217.Term, .d (.lit (.string x217.Payload))])), (1000, some (.box [.ref 25000 0 l247.length, .ref 25001 0 a0.Leaders.length, .ref 25002 0 a0.Network.length])), (9262, R71 x261.Log), (9263, R3 x261.Match), (25000, some (.nest 68 4 [none, none, some (71, 2), some (3, 1)] (l247.map cS68) [(k2, [.i x261.Term, .i x261.Commit, .ref 9262 0 x261.Log.length, .ref 9263 0 x261.Match.length])])), (25001, R3 a0.Leaders), (25002, R47 a0.Network)]) ?_
    replace h := bsome h; obtain ⟨l264, hl264, h⟩ := h
    obtain ⟨hl264a, hl264⟩ := appL_some hl264
    subst hl264
    try simp only [List.length_nil, Nat.zero_add] at hl264a
    replace h := bsome h; obtain ⟨l265, hl265, h⟩ := h
    obtain ⟨hl265a, hl265⟩ := appL_some hl265
    subst hl265
    try simp only [List.length_append, List.length_cons, List.length_nil, Nat.zero_add] at hl265a
    refine .lastAnyS [[], [], [], [2], [2, 3], [2, 3, 4], [1, 2, 3, 4, 5], [], [7], [1, 2, 3, 4, 5, 6, 7, 8], [0, 1, 2, 3, 4, 5, 6, 7, 8, 9], [0, 1, 2, 3, 4, 5, 6, 7, 8, 9, 10], [0, 1, 2, 3, 4, 5, 6, 7, 8, 9, 10, 11]] (fun (b : Nat → Bool) => mk 203 [1000] [(0, .ptr 1000 0 0), (3, .ptr 3 0 0), (4, .ptr 25000 k2 0), (6, .ptr 6 0 0), (98, .d (.sl (a1.Entries.map cS64))), (99, .i (a1.Entries.length : Int)), (100, .i v106), (147, (if b 0 then .ptr 25000 k2 0 else .junk)), (148, (if b 6 then .junk else (if b 1 then .ref 148 0 (([] : List S64).length) else .junk))), (149, (if b 2 then .ptr 25000 k2 0 else .junk)), (150, (if b 3 then .ptr 25000 k2 0 else .junk)), (151, (if b 4 then .ptr 25000 k2 2 else .junk)), (152, (if b 5 then .ref 9262 0 x261.Log.length else .junk)), (153, (if b 9 then .junk else (if b 6 then .ref 148 0 ((([] : List S64) ++ x261.Log).length) else .junk))), (154, (if b 7 then .agg [.i x217.Term, .d (.lit (.string x217.Payload))] else .junk)), (155, (if b 8 then .d (.sl ([x217].map cS64)) else .junk)), (156, (if b 9 then .ref 148 0 (((([] : List S64) ++ x261.Log) ++ [x217]).length) else .junk)), (157, (if b 10 then .ptr 25000 k2 0 else .junk)), (158, (if b 11 then .ptr 25000 k2 2 else .junk))] [(3, some (.box [.i a1.Kind, .i a1.From, .i a1.To, .i a1.Term, .i a1.Index, .i a1.PrevTerm, .i a1.Commit, .d (.sl (a1.Entries.map cS64))])), (6, some (.box [.i x217.Term, .d (.lit (.string x217.Payload))])), (148, (if b 9 then R71 ((([] : List S64) ++ x261.Log) ++ [x217]) else (if b 6 then R71 (([] : List S64) ++ x261.Log) else (if b 1 then R71 ([] : List S64) else none)))), (1000, some (.box [.ref 25000 0 l247.length, .ref 25001 0 a0.Leaders.length, .ref 25002 0 a0.Network.length])), (9262, R71 x261.Log), (9263, R3 x261.Match), (25000, (if b 12 then some (.nest 68 4 [none, none, some (71, 2), some (3, 1)] (l247.map cS68) [(k2, [.i x261.Term, .i x261.Commit, .ref 148 0 (((([] : List S64) ++ x261.Log) ++ [x217]).length), .ref 9263 0 x261.Match.length])]) else some (.nest 68 4 [none, none, some (71, 2), some (3, 1)] (l247.map cS68) [(k2, [.i x261.Term, .i x261.Commit, .ref 9262 0 x261.Log.length, .ref 9263 0 x261.Match.length])]))), (25001, R3 a0.Leaders), (25002, R47 a0.Network)]) (mk 203 [1000] (L29 k2 a1.Entries a1.Entries.length v106) [(3, some (.box [.i a1.Kind, .i a1.From, .i a1.To, .i a1.Term, .i a1.Index, .i a1.PrevTerm, .i a1.Commit, .d (.sl (a1.Entries.map cS64))])), (148, R71 ((([] : List S64) ++ x261.Log) ++ [x217])), (1000, some (.box [.ref 25000 0 l247.length, .ref 25001 0 a0.Leaders.length, .ref 25002 0 a0.Network.length])), (9263, R3 x261.Match), (25000, some (.nest 68 4 [none, none, some (71, 2), some (3, 1)] (l247.map cS68) [(k2, [.i x261.Term, .i x261.Commit, .ref 148 0 (((([] : List S64) ++ x261.Log) ++ [x217]).length), .ref 9263 0 x261.Match.length])])), (25001, R3 a0.Leaders), (25002, R47 a0.Network)]) (by kernel_rfl) (by kernel_rfl) Sub.tt (Steps.cons ?_ (Steps.cons ?_ (Steps.cons ?_ (Steps.cons ?_ (Steps.cons ?_ (Steps.cons ?_ (Steps.cons ?_ (Steps.cons ?_ (Steps.cons ?_ (Steps.cons ?_ (Steps.cons ?_ (Steps.cons ?_ (Steps.cons ?_ (Steps.nil)))))))))))))) ?_ ?_
    iterate 6
     ·intro b h0 ha hd
      have T := fct h0 ha hd; simp at T
      refine .runK [155] 1 fun K k => ?_; simp [T]; refine k _ _ ?_; clear k K
      exact .nil (.table (by simp [T]) (by simp [T]))
    ·intro b h0 ha hd
     have T := fct h0 ha hd; simp at T
     refine .runK [155] 1 fun K k => ?_; simp [T, hl264a]; refine k _ _ ?_; clear k K
     exact .nil (.table (by simp [T]) (by simp [T]))
    ·intro b h0 ha hd
     have T := fct h0 ha hd; simp at T
     refine .runK [155] 1 fun K k => ?_; simp [T]; refine k _ _ ?_; clear k K
     exact .nil (.table (by simp [T]) (by simp [T]))
    ·intro b h0 ha hd
     have T := fct h0 ha hd; simp at T
     cases q1 : b 1 <;> cases q6 : b 6 <;> (refine Chain.runK [155] 1 fun K k => ?_; simp [T]; refine k _ _ ?_; clear k K; exact .nil (.table (by simp [T, q1, q6]) (by simp [T, q1, q6])))
    ·intro b h0 ha hd
     have T := fct h0 ha hd; simp at T
     refine .runK [155] 1 fun K k => ?_; simp [T, hl265a]; refine k _ _ ?_; clear k K
     exact .nil (.table (by simp [T]) (by simp [T]))
    iterate 3
     ·intro b h0 ha hd
      have T := fct h0 ha hd; simp at T
      refine .runK [155] 1 fun K k => ?_; simp [T]; refine k _ _ ?_; clear k K
      exact .nil (.table (by simp [T]) (by simp [T]))
    ·intro b hb
     have t0 := hb 0 (by decide)
     have t1 := hb 1 (by decide)
     have t2 := hb 2 (by decide)
     have t3 := hb 3 (by decide)
     have t4 := hb 4 (by decide)
     have t5 := hb 5 (by decide)
     have t6 := hb 6 (by decide)
     have t7 := hb 7 (by decide)
     have t8 := hb 8 (by decide)
     have t9 := hb 9 (by decide)
     have t10 := hb 10 (by decide)
     have t11 := hb 11 (by decide)
     have t12 := hb 12 (by decide)
     exact Sub.table (by simp [t0, t2, t3, t4, t5, t6, t7, t8, t9, t10, t11]) (by simp [t9, t12])
    skip
    replace h := lsome h; obtain ⟨l266, gl266, h⟩ := h
    obtain ⟨hl266, hl266n⟩ := setI_some cS68 gl266 hx1k
    replace hl266 : (l247.map cS68).set k2 [.lit (.int .i64 x261.Term), .lit (.int .i64 x261.Commit), .sl (((([] : List S64) ++ x261.Log) ++ [x217]).map cS64), .sl (x261.Match.map (cI .i64))] = l266.map cS68 := hl266
    clear gl266
    try simp only [List.map_append, List.map_cons, List.map_nil, List.nil_append, cS64] at hl266
    refine blockQ.normal ?_
    refine thenQ_normal ?_
    refine .sub (show Go.Ab.Sub _ (mk 203 [1000] (L29 k2 a1.Entries a1.Entries.length v106) (H8 a1 l266 a0)) from (Sub.trans (Sub.close 25000 k2 (e := [.lit (.int .i64 x261.Term), .lit (.int .i64 x261.Commit), .sl (((([] : List S64) ++ x261.Log) ++ [x217]).map cS64), .sl (x261.Match.map (cI .i64))]) (cs := [.i x261.Term, .i x261.Commit, .ref 148 0 (((([] : List S64) ++ x261.Log) ++ [x217]).length), .ref 9263 0 x261.Match.length]) (ks := [148, 9263]) rfl rfl (by simp) (by decide) rfl) (by simp [hl266]; exact Sub.table (by simp) (by simp [hl266n])))) ?_
    refine .region ?_
    replace h := bsome h; obtain ⟨v267, hv267, h⟩ := h
    have hv267 := chkI_some hv267
    refine .runK [] 2 fun K k => ?_; simp [hv267]; refine k _ _ ?_; clear k K
    refine .tt (L29 k2 a1.Entries a1.Entries.length v267) (H8 a1 l266 a0) ?_
    refine .nil ?_
    cases h
    refine PostI.next ?_
    exact Sub.tt
   have c260_ : (v248 == (x257.Log.length : Int)) = false := Bool.eq_false_iff.2 c260
   refine .condF (b := (v248 == (x257.Log.length : Int))) rfl c260_ ?_
   refine .sub (.bool 146 (b := (v248 == (x257.Log.length : Int))) rfl c260_) ?_
   refine .st (mk 203 [1000] (L32 k2 a1.Entries a1.Entries.length v106 ++ [(146, .b false)]) (H15 a1 x217 l247 a0)) ?_
   refine .skip ?_
   refine blockQ.normal ?_
   refine thenQ_normal ?_
   refine .region ?_
   replace h := bsome h; obtain ⟨v268, hv268, h⟩ := h
   have hv268 := chkI_some hv268
   refine .runK [] 2 fun K k => ?_; simp [hv268]; refine k _ _ ?_; clear k K
   refine .tt (L29 k2 a1.Entries a1.Entries.length v268) (H8 a1 l247 a0) ?_
   refine .nil ?_
   cases h
   refine PostI.next ?_
   exact Sub.tt
  have c216_ : decide (v106 < (a1.Entries.length : Int)) = false := decide_eq_false c216
  refine .condF (b := decide (v106 < (a1.Entries.length : Int))) rfl c216_ ?_
  refine .sub (.bool 101 (b := decide (v106 < (a1.Entries.length : Int))) rfl c216_) ?_
  refine .st (mk 203 [1000] (L29 k2 a1.Entries a1.Entries.length v106 ++ [(101, .b false)]) (H8 a1 l105 a0)) ?_
  refine .exit ?_
  cases h
  refine thenQ_pass (by simp) ?_
  refine PostI.out (by simp) ?_
  rintro rfl
  refine blockQ.hit ?_
  refine PostN.next ?_
  exact Sub.tt
 rintro l215 h
 refine thenQ_normal ?_
 refine .seqR ?_
 replace h := bsome h; obtain ⟨v269, hv269, h⟩ := h
 have hv269 := chkI_some hv269
 refine .runK [] 7 fun K k => ?_; simp [hv269]; refine k _ _ ?_; clear k K
 refine .tt (L17 k2 v269) (H8 a1 l215 a0) ?_
 refine .nil ?_
 refine .seq ?_
 refine .seqR ?_
 replace h := lsome h; obtain ⟨v270, hv270, h⟩ := h
 unfold minI at hv270
 refine .runK [] 5 fun K k => ?_; simp [hv270]; refine k _ _ ?_; clear k K
 refine .tt (L33 k2 v269 v270) (H8 a1 l215 a0) ?_
 refine .nil ?_
 refine .seqR ?_
 refine .runK [] 4 fun K k => ?_; simp; refine k _ _ ?_; clear k K
 refine .tt (L33 k2 v269 v270 ++ [(170, .i v270), (173, .ptr 25000 k2 1)]) (H8 a1 l215 a0) ?_
 replace h := bsome h; obtain ⟨x271, hx271, h⟩ := h
 obtain ⟨hx271, hx271a, hx271b⟩ := idx_some2 hx271 hx1k
 refine .sub (.open 25000 k2 [9272, 9273] (e := cS68 x271) rfl rfl (by simp [hx271]) rfl (by simp) rfl) ?_
 refine .st (mk 203 [1000] (L33 k2 v269 v270 ++ [(170, .i v270), (173, .ptr 25000 k2 1)]) [(3, some (.box [.i a1.Kind, .i a1.From, .i a1.To, .i a1.Term, .i a1.Index, .i a1.PrevTerm, .i a1.Commit, .d (.sl (a1.Entries.map cS64))])), (1000, some (.box [.ref 25000 0 l215.length, .ref 25001 0 a0.Leaders.length, .ref 25002 0 a0.Network.length])), (9272, R71 x271.Log), (9273, R3 x271.Match), (25000, some (.nest 68 4 [none, none, some (71, 2), some (3, 1)] (l215.map cS68) [(k2, [.i x271.Term, .i x271.Commit, .ref 9272 0 x271.Log.length, .ref 9273 0 x271.Match.length])])), (25001, R3 a0.Leaders), (25002, R47 a0.Network)]) ?_
 refine .runK [] 2 fun K k => ?_; simp; refine k _ _ ?_; clear k K
 refine .tt (L33 k2 v269 v270 ++ [(175, .b (decide (v270 > x271.Commit)))]) [(3, some (.box [.i a1.Kind, .i a1.From, .i a1.To, .i a1.Term, .i a1.Index, .i a1.PrevTerm, .i a1.Commit, .d (.sl (a1.Entries.map cS64))])), (1000, some (.box [.ref 25000 0 l215.length, .ref 25001 0 a0.Leaders.length, .ref 25002 0 a0.Network.length])), (9272, R71 x271.Log), (9273, R3 x271.Match), (25000, some (.nest 68 4 [none, none, some (71, 2), some (3, 1)] (l215.map cS68) [(k2, [.i x271.Term, .i x271.Commit, .ref 9272 0 x271.Log.length, .ref 9273 0 x271.Match.length])])), (25001, R3 a0.Leaders), (25002, R47 a0.Network)] ?_
 refine .sub (.closeSame 25000 k2 (e := cS68 x271) (cs := [.d (.lit (.int .i64 x271.Term)), .d (.lit (.int .i64 x271.Commit)), .ref 9272 0 x271.Log.length, .ref 9273 0 x271.Match.length]) (ks := [9272, 9273]) rfl rfl (by simp [hx271]) (by simp) (by decide) rfl) ?_
 refine .sub (S' := mk 203 [1000] (L33 k2 v269 v270 ++ [(175, .b (decide (v270 > x271.Commit)))]) (H8 a1 l215 a0)) (by simp; exact Sub.table (by simp) (by simp)) ?_
 refine .nil ?_
 refine .lastN (fun (l279 : List S68) => mk 203 [1000] [(0, .ptr 1000 0 0), (3, .ptr 3 0 0), (8, .i v269)] (H8 a1 l279 a0)) h ?_ ?_ <;> clear h
 ·intro o h
  replace h := isome h; rcases h with ⟨c280, h⟩ | ⟨c280, h⟩
  ·have c280_ : decide (v270 > x271.Commit) = true := decide_eq_true c280
   refine .condT (b := decide (v270 > x271.Commit)) rfl c280_ ?_
   refine .sub (.bool 175 (b := decide (v270 > x271.Commit)) rfl c280_) ?_
   refine .st (mk 203 [1000] (L33 k2 v269 v270 ++ [(175, .b true)]) (H8 a1 l215 a0)) ?_
   refine .region ?_
   refine .runK [] 4 fun K k => ?_; simp; refine k _ _ ?_; clear k K
   refine .tt (L18 v269 ++ [(177, .i v270), (179, .ptr 25000 k2 1)]) (H8 a1 l215 a0) ?_
   replace h := bsome h; obtain ⟨x281, hx281, h⟩ := h
   obtain ⟨hx281, hx281a, hx281b⟩ := idx_some2 hx281 hx1k
   refine .sub (.open 25000 k2 [9282, 9283] (e := cS68 x281) rfl rfl (by simp [hx281]) rfl (by simp) rfl) ?_
   refine .st (mk 203 [1000] (L18 v269 ++ [(177, .i v270), (179, .ptr 25000 k2 1)]) [(3, some (.box [.i a1.Kind, .i a1.From, .i a1.To, .i a1.Term, .i a1.Index, .i a1.PrevTerm, .i a1.Commit, .d (.sl (a1.Entries.map cS64))])), (1000, some (.box [.ref 25000 0 l215.length, .ref 25001 0 a0.Leaders.length, .ref 25002 0 a0.Network.length])), (9282, R71 x281.Log), (9283, R3 x281.Match), (25000, some (.nest 68 4 [none, none, some (71, 2), some (3, 1)] (l215.map cS68) [(k2, [.i x281.Term, .i x281.Commit, .ref 9282 0 x281.Log.length, .ref 9283 0 x281.Match.length])])), (25001, R3 a0.Leaders), (25002, R47 a0.Network)]) ?_
   refine .runK [] 1 fun K k => ?_; simp; refine k _ _ ?_; clear k K
   refine .tt [(0, .ptr 1000 0 0), (3, .ptr 3 0 0), (8, .i v269)] [(3, some (.box [.i a1.Kind, .i a1.From, .i a1.To, .i a1.Term, .i a1.Index, .i a1.PrevTerm, .i a1.Commit, .d (.sl (a1.Entries.map cS64))])), (1000, some (.box [.ref 25000 0 l215.length, .ref 25001 0 a0.Leaders.length, .ref 25002 0 a0.Network.length])), (9282, R71 x281.Log), (9283, R3 x281.Match), (25000, some (.nest 68 4 [none, none, some (71, 2), some (3, 1)] (l215.map cS68) [(k2, [.i x281.Term, .i v270, .ref 9282 0 x281.Log.length, .ref 9283 0 x281.Match.length])])), (25001, R3 a0.Leaders), (25002, R47 a0.Network)] ?_
   replace h := lsome h; obtain ⟨l284, gl284, h⟩ := h
   obtain ⟨hl284, hl284n⟩ := setI_some cS68 gl284 hx1k
   replace hl284 : (l215.map cS68).set k2 [.lit (.int .i64 x281.Term), .lit (.int .i64 v270), .sl (x281.Log.map cS64), .sl (x281.Match.map (cI .i64))] = l284.map cS68 := hl284
   clear gl284
   refine .sub (.close 25000 k2 (e := [.lit (.int .i64 x281.Term), .lit (.int .i64 v270), .sl (x281.Log.map cS64), .sl (x281.Match.map (cI .i64))]) (cs := [.d (.lit (.int .i64 x281.Term)), .d (.lit (.int .i64 v270)), .ref 9282 0 x281.Log.length, .ref 9283 0 x281.Match.length]) (ks := [9282, 9283]) rfl rfl (by simp) (by decide) rfl) ?_
   refine .sub (S' := mk 203 [1000] [(0, .ptr 1000 0 0), (3, .ptr 3 0 0), (8, .i v269)] (H8 a1 l284 a0)) (by simp [hl284]; exact Sub.table (by simp) (by simp [hl284n])) ?_
   refine .nil ?_
   cases h
   refine PostN.next ?_
   exact Sub.tt
  have c280_ : decide (v270 > x271.Commit) = false := decide_eq_false c280
  refine .condF (b := decide (v270 > x271.Commit)) rfl c280_ ?_
  refine .sub (.bool 175 (b := decide (v270 > x271.Commit)) rfl c280_) ?_
  refine .st (mk 203 [1000] (L33 k2 v269 v270 ++ [(175, .b false)]) (H8 a1 l215 a0)) ?_
  refine .skip ?_
  cases h
  refine PostN.next ?_
  exact Sub.tt
 rintro l279 h
 refine thenQ_normal ?_
 refine .seqR ?_
 refine .runK [] 6 fun K k => ?_; simp; refine k _ _ ?_; clear k K
 refine .tt (L18 v269 ++ [(185, .b (decide ((a0.Network.length : Int) < 100)))]) (H8 a1 l279 a0) ?_
 refine .nil ?_
 replace h := isome h; rcases h with ⟨c285, h⟩ | ⟨c285, h⟩
 ·have c285_ : decide ((a0.Network.length : Int) < 100) = true := decide_eq_true c285
  refine .condT (b := decide ((a0.Network.length : Int) < 100)) rfl c285_ ?_
  refine .sub (.bool 185 (b := decide ((a0.Network.length : Int) < 100)) rfl c285_) ?_
  refine .st (mk 203 [1000] (L18 v269 ++ [(185, .b true)]) (H8 a1 l279 a0)) ?_
  replace h := bsome h; obtain ⟨l286, hl286, h⟩ := h
  obtain ⟨hl286a, hl286⟩ := appL_some hl286
  subst hl286
  try simp only [List.length_cons, List.length_nil, Nat.zero_add] at hl286a
  refine .lastAnyS [[], [], [1], [1, 2], [1, 2, 3], [], [5], [], [7], [], [9], [], [5, 6, 7, 8, 9, 10, 11], [5, 6, 7, 8, 9, 10, 11, 12], [1, 2, 3, 4, 5, 6, 7, 8, 9, 10, 11, 12, 13], [0, 1, 2, 3, 4, 5, 6, 7, 8, 9, 10, 11, 12, 13, 14], [0, 1, 2, 3, 4, 5, 6, 7, 8, 9, 10, 11, 12, 13, 14, 15], [0, 1, 2, 3, 4, 5, 6, 7, 8, 9, 10, 11, 12, 13, 14, 15, 16]] (fun (b : Nat → Bool) => mk 203 [1000] [(0, .ptr 1000 0 0), (3, .ptr 3 0 0), (8, .i v269), (186, (if b 0 then .ptr 1000 0 0 else .junk)), (187, (if b 1 then .ptr 1000 0 0 else .junk)), (188, (if b 2 then .ptr 1000 0 0 else .junk)), (189, (if b 3 then .ptr 1000 0 2 else .junk)), (190, (if b 14 then .junk else (if b 4 then .ref 25002 0 a0.Network.length else .junk))), (191, (if b 5 then .ptr 3 0 2 else .junk)), (192, (if b 6 then .i a1.To else .junk)), (193, (if b 7 then .ptr 3 0 1 else .junk)), (194, (if b 8 then .i a1.From else .junk)), (195, (if b 9 then .ptr 3 0 3 else .junk)), (196, (if b 10 then .i a1.Term else .junk)), (197, (if b 11 then .i v269 else .junk)), (198, (if b 12 then .agg [.i 2, .i a1.To, .i a1.From, .i a1.Term, .i v269, .i 0, .i 0, .d (.sl (([] : List S64).map cS64))] else .junk)), (199, (if b 13 then .d (.sl ([(S73.mk 2 a1.To a1.From a1.Term v269 0 0 ([] : List S64))].map cS73)) else .junk)), (200, (if b 14 then .ref 25002 0 ((a0.Network ++ [(S73.mk 2 a1.To a1.From a1.Term v269 0 0 ([] : List S64))]).length) else .junk)), (201, (if b 15 then .ptr 1000 0 0 else .junk)), (202, (if b 16 then .ptr 1000 0 2 else .junk))] [(3, some (.box [.i a1.Kind, .i a1.From, .i a1.To, .i a1.Term, .i a1.Index, .i a1.PrevTerm, .i a1.Commit, .d (.sl (a1.Entries.map cS64))])), (1000, (if b 17 then some (.box [.ref 25000 0 l279.length, .ref 25001 0 a0.Leaders.length, .ref 25002 0 ((a0.Network ++ [(S73.mk 2 a1.To a1.From a1.Term v269 0 0 ([] : List S64))]).length)]) else (if b 14 then some (.box [.ref 25000 0 l279.length, .ref 25001 0 a0.Leaders.length, .hole]) else some (.box [.ref 25000 0 l279.length, .ref 25001 0 a0.Leaders.length, .ref 25002 0 a0.Network.length])))), (25000, some (.nest 68 4 [none, none, some (71, 2), some (3, 1)] (l279.map cS68) [])), (25001, R3 a0.Leaders), (25002, (if b 14 then R47 (a0.Network ++ [(S73.mk 2 a1.To a1.From a1.Term v269 0 0 ([] : List S64))]) else R47 a0.Network))]) (mk 203 [1000] [] [(1000, some (.box [.ref 25000 0 l279.length, .ref 25001 0 a0.Leaders.length, .ref 25002 0 ((a0.Network ++ [(S73.mk 2 a1.To a1.From a1.Term v269 0 0 ([] : List S64))]).length)])), (25000, some (.nest 68 4 [none, none, some (71, 2), some (3, 1)] (l279.map cS68) [])), (25001, R3 a0.Leaders), (25002, R47 (a0.Network ++ [(S73.mk 2 a1.To a1.From a1.Term v269 0 0 ([] : List S64))]))]) (by kernel_rfl) (by kernel_rfl) Sub.tt (Steps.cons ?_ (Steps.cons ?_ (Steps.cons ?_ (Steps.cons ?_ (Steps.cons ?_ (Steps.cons ?_ (Steps.cons ?_ (Steps.cons ?_ (Steps.cons ?_ (Steps.cons ?_ (Steps.cons ?_ (Steps.cons ?_ (Steps.cons ?_ (Steps.cons ?_ (Steps.cons ?_ (Steps.cons ?_ (Steps.cons ?_ (Steps.cons ?_ (Steps.nil))))))))))))))))))) ?_ ?_
  iterate 12
   ·intro b h0 ha hd
    have T := fct h0 ha hd; simp at T
    refine .runK [199] 1 fun K k => ?_; simp [T]; refine k _ _ ?_; clear k K
    exact .nil (.table (by simp [T]) (by simp [T]))
  ·intro b h0 ha hd
   have T := fct h0 ha hd; simp at T
   refine .runK [199] 1 fun K k => ?_; simp [T]; refine k _ _ ?_; clear k K
   refine .sub (.wk 198 rfl) ?_
   exact .nil (by simp [T]; exact Sub.table (by simp) (by simp))
  ·intro b h0 ha hd
   have T := fct h0 ha hd; simp at T
   refine .runK [199] 1 fun K k => ?_; simp [T]; refine k _ _ ?_; clear k K
   exact .nil (.table (by simp [T]) (by simp [T]))
  ·intro b h0 ha hd
   have T := fct h0 ha hd; simp at T
   refine .runK [199] 1 fun K k => ?_; simp [T, hl286a]; refine k _ _ ?_; clear k K
   exact .nil (.table (by simp [T]) (by simp [T]))
  iterate 3
   ·intro b h0 ha hd
    have T := fct h0 ha hd; simp at T
    refine .runK [199] 1 fun K k => ?_; simp [T]; refine k _ _ ?_; clear k K
    exact .nil (.table (by simp [T]) (by simp [T]))
  ·intro b hb
   have t0 := hb 0 (by decide)
   have t1 := hb 1 (by decide)
   have t2 := hb 2 (by decide)
   have t3 := hb 3 (by decide)
   have t4 := hb 4 (by decide)
   have t5 := hb 5 (by decide)
   have t6 := hb 6 (by decide)
   have t7 := hb 7 (by decide)
   have t8 := hb 8 (by decide)
   have t9 := hb 9 (by decide)
   have t10 := hb 10 (by decide)
   have t11 := hb 11 (by decide)
   have t12 := hb 12 (by decide)
   have t13 := hb 13 (by decide)
   have t14 := hb 14 (by decide)
   have t15 := hb 15 (by decide)
   have t16 := hb 16 (by decide)
   have t17 := hb 17 (by decide)
   exact Sub.table (by simp [t0, t1, t2, t3, t5, t6, t7, t8, t9, t10, t11, t12, t13, t14, t15, t16]) (by simp [t14, t17])
  skip
  cases h
  exact FinF.normal (by simp) (by simp)
 have c285_ : decide ((a0.Network.length : Int) < 100) = false := decide_eq_false c285
 refine .condF (b := decide ((a0.Network.length : Int) < 100)) rfl c285_ ?_
 refine .sub (.bool 185 (b := decide ((a0.Network.length : Int) < 100)) rfl c285_) ?_
 refine .st (mk 203 [1000] (L18 v269 ++ [(185, .b false)]) (H8 a1 l279 a0)) ?_
 refine .skip ?_
 cases h
 exact FinF.normal (by simp) (by simp)
end Go.Proofs.Ytifcmomjjkbboab
