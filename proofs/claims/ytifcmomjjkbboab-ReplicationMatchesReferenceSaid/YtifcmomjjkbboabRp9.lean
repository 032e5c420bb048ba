/- Functions of the program as functional programs; the code computes them. -/
import Derived.Test.YtifcmomjjkbboabRp8
namespace Go.Proofs.Ytifcmomjjkbboab
open Go.Ab Go.Rp
attribute [-simp] List.all_eq_true Array.all_toList Array.all_eq_true

/-- (*stemma/replication.Cluster).receiveEntries -/
def d30 (N : Nat) (a0 : S59) (a1 : S73) : Option S59 :=
 (idx a0.servers a1.To).bind fun _x1 =>
 (idx a0.servers a1.To).bind fun x5 =>
 letv (setI a0.servers a1.To (S61.mk a1.Term x5.commit x5.log x5.match_)) fun l8 =>
 Option.bind (α := Bool) (
  (idx l8 a1.To).bind fun x18 =>
  if a1.Index > (x18.log.length : Int) then (
   some true
  ) else
  if a1.Index > 0 then (
   (chkI (a1.Index - 1)).bind fun v23 =>
   (idx x18.log v23).bind fun x24 =>
   some (x24.Term != a1.PrevTerm)
  ) else
  some false
 ) fun (v17 : Bool) =>
 if v17 = true then (
  some (S59.mk l8 a0.leaders a0.network)
 ) else
 Option.bind (α := List S61) (
  iterN (σ := ((List S61) × Int)) (ρ := List S61) (fun ((l88, v89) : ((List S61) × Int)) =>
   if v89 < (a1.Entries.length : Int) then (
    Option.bind (α := List S61) (
     (idx a1.Entries v89).bind fun x251 =>
     (chkI (a1.Index + v89)).bind fun v253 =>
     Option.bind (α := Bool) (
      (idx l88 a1.To).bind fun x267 =>
      if v253 < (x267.log.length : Int) then (
       (idx x267.log v253).bind fun x271 =>
       some (x271.Term == x251.Term)
      ) else
      some false
     ) fun (v266 : Bool) =>
     if v266 = true then (
      some l88
     ) else
     (idx l88 a1.To).bind fun x274 =>
     (natI v253 x274.log.length).bind fun n277 =>
     (d26 N (x274.log.take n277)).bind fun r278 =>
     (appL 24 r278 [x251]).bind fun _l279 =>
     letv (setI l88 a1.To (S61.mk x274.term x274.commit (r278 ++ [x251]) x274.match_)) fun l280 =>
     some l280
    ) fun (l250 : List S61) =>
    (chkI (v89 + 1)).bind fun v281 =>
    some (.inl (l250, v281))
   ) else
   some (.inr l88)
  ) N (l8, 0)
 ) fun (l218 : List S61) =>
 (chkI (a1.Index + (a1.Entries.length : Int))).bind fun v282 =>
 (idx l218 a1.To).bind fun x283 =>
 letv (minI a1.Commit v282) fun v286 =>
 letv (maxI x283.commit v286) fun v287 =>
 letv (setI l218 a1.To (S61.mk x283.term v287 x283.log x283.match_)) fun l288 =>
 if (a0.network.length : Int) < 100 then (
  (appL 80 a0.network [(S73.mk 2 a1.To a1.From a1.Term v282 0 0 ([] : List S64))]).bind fun _l290 =>
  some (S59.mk l288 a0.leaders (a0.network ++ [(S73.mk 2 a1.To a1.From a1.Term v282 0 0 ([] : List S64))]))
 ) else
 some (S59.mk l288 a0.leaders a0.network)
set_option maxRecDepth 100000 in
set_option maxHeartbeats 4000000 in
theorem p30 (N : Nat) (a0 : S59) (a1 : S73) (r : S59) (h : d30 N a0 a1 = some r) : FunM Try.prog 30 [.ptr 1000 0 0, .agg [.i a1.Kind, .i a1.From, .i a1.To, .i a1.Term, .i a1.Index, .i a1.PrevTerm, .i a1.Commit, .d (.sl (a1.Entries.map cS64))]] [(1000, some (.box [.ref 25000 0 a0.servers.length, .ref 25001 0 a0.leaders.length, .ref 25002 0 a0.network.length])), (25000, some (.nest 61 4 [none, none, some (64, 2), some (3, 1)] (a0.servers.map cS61) [])), (25001, R3 a0.leaders), (25002, R73 a0.network)] [1000] (.tup []) ([(1000, (.box [.ref 25000 0 r.servers.length, .ref 25001 0 r.leaders.length, .ref 25002 0 r.network.length])), (25000, (.nest 61 4 [none, none, some (64, 2), some (3, 1)] (r.servers.map cS61) [])), (25001, (.arr 3 1 (r.leaders.map (cI .i64)))), (25002, (.arr 73 8 (r.network.map cS73)))]) := by
 unfold d30 at h
 refine FunM.enter 136 [(0, .ptr 1000 0 0), (1, .agg [.i a1.Kind, .i a1.From, .i a1.To, .i a1.Term, .i a1.Index, .i a1.PrevTerm, .i a1.Commit, .d (.sl (a1.Entries.map cS64))])] Try.func30 rfl (of_decide_eq_true rfl) rfl rfl ?_
 refine .seqR ?_
 refine .runK [] 1 fun K k => ?_; simp; refine k _ _ ?_; clear k K
 refine .tt [(0, .ptr 1000 0 0), (3, .ptr 3 0 0)] (H26 a1 a0) ?_
 refine .nil ?_
 refine .seqQ (by kernel_rfl) (by kernel_rfl) ?_
 refine .runQ 6 fun K k => ?_; simp; refine k _ _ ?_; clear k K
 refine .tt [(0, .ptr 1000 0 0), (3, .ptr 3 0 0), (12, .ref 25000 0 a0.servers.length), (14, .i a1.To)] (H26 a1 a0) ?_
 replace h := bsome h; obtain ⟨x1, hx1, h⟩ := h
 obtain ⟨k2, hx1k, hx1, hx1a, hx1b⟩ := idx_some hx1
 refine .sub (.open 25000 k2 [9003, 9004] (e := cS61 x1) rfl rfl (by simp [hx1]) rfl (by simp) rfl) ?_
 refine .st (mk 136 [1000] [(0, .ptr 1000 0 0), (3, .ptr 3 0 0), (12, .ref 25000 0 a0.servers.length), (14, .i a1.To)] [(3, some (.box [.i a1.Kind, .i a1.From, .i a1.To, .i a1.Term, .i a1.Index, .i a1.PrevTerm, .i a1.Commit, .d (.sl (a1.Entries.map cS64))])), (1000, some (.box [.ref 25000 0 a0.servers.length, .ref 25001 0 a0.leaders.length, .ref 25002 0 a0.network.length])), (9003, R64 x1.log), (9004, R3 x1.match_), (25000, some (.nest 61 4 [none, none, some (64, 2), some (3, 1)] (a0.servers.map cS61) [(k2, [.i x1.term, .i x1.commit, .ref 9003 0 x1.log.length, .ref 9004 0 x1.match_.length])])), (25001, R3 a0.leaders), (25002, R73 a0.network)]) ?_
 refine .runQ 2 fun K k => ?_; simp [hx1k, hx1a, hx1b]; refine k _ _ ?_; clear k K
 refine .tt [(0, .ptr 1000 0 0), (3, .ptr 3 0 0), (4, .ptr 25000 k2 0)] [(3, some (.box [.i a1.Kind, .i a1.From, .i a1.To, .i a1.Term, .i a1.Index, .i a1.PrevTerm, .i a1.Commit, .d (.sl (a1.Entries.map cS64))])), (1000, some (.box [.ref 25000 0 a0.servers.length, .ref 25001 0 a0.leaders.length, .ref 25002 0 a0.network.length])), (9003, R64 x1.log), (9004, R3 x1.match_), (25000, some (.nest 61 4 [none, none, some (64, 2), some (3, 1)] (a0.servers.map cS61) [(k2, [.i x1.term, .i x1.commit, .ref 9003 0 x1.log.length, .ref 9004 0 x1.match_.length])])), (25001, R3 a0.leaders), (25002, R73 a0.network)] ?_
 refine .sub (.closeSame 25000 k2 (e := cS61 x1) (cs := [.d (.lit (.int .i64 x1.term)), .d (.lit (.int .i64 x1.commit)), .ref 9003 0 x1.log.length, .ref 9004 0 x1.match_.length]) (ks := [9003, 9004]) rfl rfl (by simp [hx1]) (by simp) (by decide) rfl) ?_
 refine .sub (S' := mk 136 [1000] [(0, .ptr 1000 0 0), (3, .ptr 3 0 0), (4, .ptr 25000 k2 0)] (H26 a1 a0)) (by simp; exact Sub.table (by simp) (by simp)) ?_
 refine .nil ?_
 refine .seqR ?_
 refine .runK [] 5 fun K k => ?_; simp; refine k _ _ ?_; clear k K
 refine .tt (L11 k2 ++ [(18, .i a1.Term), (20, .ptr 25000 k2 0)]) (H26 a1 a0) ?_
 replace h := bsome h; obtain ⟨x5, hx5, h⟩ := h
 obtain ⟨hx5, hx5a, hx5b⟩ := idx_some2 hx5 hx1k
 refine .sub (.open 25000 k2 [9006, 9007] (e := cS61 x5) rfl rfl (by simp [hx5]) rfl (by simp) rfl) ?_
 refine .st (mk 136 [1000] (L11 k2 ++ [(18, .i a1.Term), (20, .ptr 25000 k2 0)]) [(3, some (.box [.i a1.Kind, .i a1.From, .i a1.To, .i a1.Term, .i a1.Index, .i a1.PrevTerm, .i a1.Commit, .d (.sl (a1.Entries.map cS64))])), (1000, some (.box [.ref 25000 0 a0.servers.length, .ref 25001 0 a0.leaders.length, .ref 25002 0 a0.network.length])), (9006, R64 x5.log), (9007, R3 x5.match_), (25000, some (.nest 61 4 [none, none, some (64, 2), some (3, 1)] (a0.servers.map cS61) [(k2, [.i x5.term, .i x5.commit, .ref 9006 0 x5.log.length, .ref 9007 0 x5.match_.length])])), (25001, R3 a0.leaders), (25002, R73 a0.network)]) ?_
 refine .runK [] 1 fun K k => ?_; simp; refine k _ _ ?_; clear k K
 refine .tt [(0, .ptr 1000 0 0), (3, .ptr 3 0 0), (4, .ptr 25000 k2 0)] [(3, some (.box [.i a1.Kind, .i a1.From, .i a1.To, .i a1.Term, .i a1.Index, .i a1.PrevTerm, .i a1.Commit, .d (.sl (a1.Entries.map cS64))])), (1000, some (.box [.ref 25000 0 a0.servers.length, .ref 25001 0 a0.leaders.length, .ref 25002 0 a0.network.length])), (9006, R64 x5.log), (9007, R3 x5.match_), (25000, some (.nest 61 4 [none, none, some (64, 2), some (3, 1)] (a0.servers.map cS61) [(k2, [.i a1.Term, .i x5.commit, .ref 9006 0 x5.log.length, .ref 9007 0 x5.match_.length])])), (25001, R3 a0.leaders), (25002, R73 a0.network)] ?_
 replace h := lsome h; obtain ⟨l8, gl8, h⟩ := h
 obtain ⟨hl8, hl8n⟩ := setI_some cS61 gl8 hx1k
 replace hl8 : (a0.servers.map cS61).set k2 [.lit (.int .i64 a1.Term), .lit (.int .i64 x5.commit), .sl (x5.log.map cS64), .sl (x5.match_.map (cI .i64))] = l8.map cS61 := hl8
 clear gl8
 refine .sub (.close 25000 k2 (e := [.lit (.int .i64 a1.Term), .lit (.int .i64 x5.commit), .sl (x5.log.map cS64), .sl (x5.match_.map (cI .i64))]) (cs := [.d (.lit (.int .i64 a1.Term)), .d (.lit (.int .i64 x5.commit)), .ref 9006 0 x5.log.length, .ref 9007 0 x5.match_.length]) (ks := [9006, 9007]) rfl rfl (by simp) (by decide) rfl) ?_
 refine .sub (S' := mk 136 [1000] [(0, .ptr 1000 0 0), (3, .ptr 3 0 0), (4, .ptr 25000 k2 0)] (H10 a1 l8 a0)) (by simp [hl8]; exact Sub.table (by simp) (by simp [hl8n])) ?_
 refine .nil ?_
 refine .seq ?_
 replace h := bsome h; obtain ⟨v17, hj, h⟩ := h
 refine .cutQ (by kernel_rfl) (by kernel_rfl) (mk 136 [1000] (L11 k2 ++ [(48, .b v17)]) (H10 a1 l8 a0)) ?_ ?_
 ·clear h; have h := hj; clear hj
  refine .runQ 5 fun K k => ?_; simp; refine k _ _ ?_; clear k K
  refine .tt (L11 k2 ++ [(22, .i a1.Index), (25, .ptr 25000 k2 2)]) (H10 a1 l8 a0) ?_
  replace h := bsome h; obtain ⟨x18, hx18, h⟩ := h
  obtain ⟨hx18, hx18a, hx18b⟩ := idx_some2 hx18 hx1k
  refine .sub (.open 25000 k2 [9019, 9020] (e := cS61 x18) rfl rfl (by simp [hx18]) rfl (by simp) rfl) ?_
  refine .st (mk 136 [1000] (L11 k2 ++ [(22, .i a1.Index), (25, .ptr 25000 k2 2)]) [(3, some (.box [.i a1.Kind, .i a1.From, .i a1.To, .i a1.Term, .i a1.Index, .i a1.PrevTerm, .i a1.Commit, .d (.sl (a1.Entries.map cS64))])), (1000, some (.box [.ref 25000 0 l8.length, .ref 25001 0 a0.leaders.length, .ref 25002 0 a0.network.length])), (9019, R64 x18.log), (9020, R3 x18.match_), (25000, some (.nest 61 4 [none, none, some (64, 2), some (3, 1)] (l8.map cS61) [(k2, [.i x18.term, .i x18.commit, .ref 9019 0 x18.log.length, .ref 9020 0 x18.match_.length])])), (25001, R3 a0.leaders), (25002, R73 a0.network)]) ?_
  refine .runQ 4 fun K k => ?_; simp; refine k _ _ ?_; clear k K
  refine .tt (L11 k2 ++ [(29, .b (decide (a1.Index > (x18.log.length : Int))))]) [(3, some (.box [.i a1.Kind, .i a1.From, .i a1.To, .i a1.Term, .i a1.Index, .i a1.PrevTerm, .i a1.Commit, .d (.sl (a1.Entries.map cS64))])), (1000, some (.box [.ref 25000 0 l8.length, .ref 25001 0 a0.leaders.length, .ref 25002 0 a0.network.length])), (9019, R64 x18.log), (9020, R3 x18.match_), (25000, some (.nest 61 4 [none, none, some (64, 2), some (3, 1)] (l8.map cS61) [(k2, [.i x18.term, .i x18.commit, .ref 9019 0 x18.log.length, .ref 9020 0 x18.match_.length])])), (25001, R3 a0.leaders), (25002, R73 a0.network)] ?_
  replace h := isome h; rcases h with ⟨c21, h⟩ | ⟨c21, h⟩
  ·have c21_ : decide (a1.Index > (x18.log.length : Int)) = true := decide_eq_true c21
   refine .sub (.bool 29 (b := decide (a1.Index > (x18.log.length : Int))) rfl c21_) ?_
   refine .st (mk 136 [1000] (L11 k2 ++ [(29, .b true)]) [(3, some (.box [.i a1.Kind, .i a1.From, .i a1.To, .i a1.Term, .i a1.Index, .i a1.PrevTerm, .i a1.Commit, .d (.sl (a1.Entries.map cS64))])), (1000, some (.box [.ref 25000 0 l8.length, .ref 25001 0 a0.leaders.length, .ref 25002 0 a0.network.length])), (9019, R64 x18.log), (9020, R3 x18.match_), (25000, some (.nest 61 4 [none, none, some (64, 2), some (3, 1)] (l8.map cS61) [(k2, [.i x18.term, .i x18.commit, .ref 9019 0 x18.log.length, .ref 9020 0 x18.match_.length])])), (25001, R3 a0.leaders), (25002, R73 a0.network)]) ?_
   refine .runQ 19 fun K k => ?_; simp; refine k _ _ ?_; clear k K
   refine .tt (L12 k2) [(3, some (.box [.i a1.Kind, .i a1.From, .i a1.To, .i a1.Term, .i a1.Index, .i a1.PrevTerm, .i a1.Commit, .d (.sl (a1.Entries.map cS64))])), (1000, some (.box [.ref 25000 0 l8.length, .ref 25001 0 a0.leaders.length, .ref 25002 0 a0.network.length])), (9019, R64 x18.log), (9020, R3 x18.match_), (25000, some (.nest 61 4 [none, none, some (64, 2), some (3, 1)] (l8.map cS61) [(k2, [.i x18.term, .i x18.commit, .ref 9019 0 x18.log.length, .ref 9020 0 x18.match_.length])])), (25001, R3 a0.leaders), (25002, R73 a0.network)] ?_
   refine .sub (.closeSame 25000 k2 (e := cS61 x18) (cs := [.d (.lit (.int .i64 x18.term)), .d (.lit (.int .i64 x18.commit)), .ref 9019 0 x18.log.length, .ref 9020 0 x18.match_.length]) (ks := [9019, 9020]) rfl rfl (by simp [hx18]) (by simp) (by decide) rfl) ?_
   refine .sub (S' := mk 136 [1000] (L12 k2) (H10 a1 l8 a0)) (by simp; exact Sub.table (by simp) (by simp)) ?_
   cases h
   exact .nil .tt
  have c21_ : decide (a1.Index > (x18.log.length : Int)) = false := decide_eq_false c21
  refine .sub (.bool 29 (b := decide (a1.Index > (x18.log.length : Int))) rfl c21_) ?_
  refine .st (mk 136 [1000] (L13 k2) [(3, some (.box [.i a1.Kind, .i a1.From, .i a1.To, .i a1.Term, .i a1.Index, .i a1.PrevTerm, .i a1.Commit, .d (.sl (a1.Entries.map cS64))])), (1000, some (.box [.ref 25000 0 l8.length, .ref 25001 0 a0.leaders.length, .ref 25002 0 a0.network.length])), (9019, R64 x18.log), (9020, R3 x18.match_), (25000, some (.nest 61 4 [none, none, some (64, 2), some (3, 1)] (l8.map cS61) [(k2, [.i x18.term, .i x18.commit, .ref 9019 0 x18.log.length, .ref 9020 0 x18.match_.length])])), (25001, R3 a0.leaders), (25002, R73 a0.network)]) ?_
  refine .runQ 4 fun K k => ?_; simp; refine k _ _ ?_; clear k K
  refine .tt (L13 k2 ++ [(33, .b (decide (a1.Index > 0)))]) [(3, some (.box [.i a1.Kind, .i a1.From, .i a1.To, .i a1.Term, .i a1.Index, .i a1.PrevTerm, .i a1.Commit, .d (.sl (a1.Entries.map cS64))])), (1000, some (.box [.ref 25000 0 l8.length, .ref 25001 0 a0.leaders.length, .ref 25002 0 a0.network.length])), (9019, R64 x18.log), (9020, R3 x18.match_), (25000, some (.nest 61 4 [none, none, some (64, 2), some (3, 1)] (l8.map cS61) [(k2, [.i x18.term, .i x18.commit, .ref 9019 0 x18.log.length, .ref 9020 0 x18.match_.length])])), (25001, R3 a0.leaders), (25002, R73 a0.network)] ?_
  replace h := isome h; rcases h with ⟨c22, h⟩ | ⟨c22, h⟩
  ·have c22_ : decide (a1.Index > 0) = true := decide_eq_true c22
   refine .sub (.bool 33 (b := decide (a1.Index > 0)) rfl c22_) ?_
   refine .st (mk 136 [1000] (L13 k2 ++ [(33, .b true)]) [(3, some (.box [.i a1.Kind, .i a1.From, .i a1.To, .i a1.Term, .i a1.Index, .i a1.PrevTerm, .i a1.Commit, .d (.sl (a1.Entries.map cS64))])), (1000, some (.box [.ref 25000 0 l8.length, .ref 25001 0 a0.leaders.length, .ref 25002 0 a0.network.length])), (9019, R64 x18.log), (9020, R3 x18.match_), (25000, some (.nest 61 4 [none, none, some (64, 2), some (3, 1)] (l8.map cS61) [(k2, [.i x18.term, .i x18.commit, .ref 9019 0 x18.log.length, .ref 9020 0 x18.match_.length])])), (25001, R3 a0.leaders), (25002, R73 a0.network)]) ?_
   replace h := bsome h; obtain ⟨v23, hv23, h⟩ := h
   have hv23 := chkI_some hv23
   replace h := bsome h; obtain ⟨x24, hx24, h⟩ := h
   obtain ⟨k25, hx24k, hx24, hx24a, hx24b⟩ := idx_some hx24
   refine .runQ 15 fun K k => ?_; simp [hv23, hx24, hx24k, hx24a, hx24b]; refine k _ _ ?_; clear k K
   refine .tt (L11 k2 ++ [(48, .b (x24.Term != a1.PrevTerm))]) [(3, some (.box [.i a1.Kind, .i a1.From, .i a1.To, .i a1.Term, .i a1.Index, .i a1.PrevTerm, .i a1.Commit, .d (.sl (a1.Entries.map cS64))])), (1000, some (.box [.ref 25000 0 l8.length, .ref 25001 0 a0.leaders.length, .ref 25002 0 a0.network.length])), (9019, R64 x18.log), (9020, R3 x18.match_), (25000, some (.nest 61 4 [none, none, some (64, 2), some (3, 1)] (l8.map cS61) [(k2, [.i x18.term, .i x18.commit, .ref 9019 0 x18.log.length, .ref 9020 0 x18.match_.length])])), (25001, R3 a0.leaders), (25002, R73 a0.network)] ?_
   refine .sub (.closeSame 25000 k2 (e := cS61 x18) (cs := [.d (.lit (.int .i64 x18.term)), .d (.lit (.int .i64 x18.commit)), .ref 9019 0 x18.log.length, .ref 9020 0 x18.match_.length]) (ks := [9019, 9020]) rfl rfl (by simp [hx18]) (by simp) (by decide) rfl) ?_
   refine .sub (S' := mk 136 [1000] (L11 k2 ++ [(48, .b (x24.Term != a1.PrevTerm))]) (H10 a1 l8 a0)) (by simp; exact Sub.table (by simp) (by simp)) ?_
   cases h
   exact .nil .tt
  have c22_ : decide (a1.Index > 0) = false := decide_eq_false c22
  refine .sub (.bool 33 (b := decide (a1.Index > 0)) rfl c22_) ?_
  refine .st (mk 136 [1000] (L13 k2 ++ [(33, .b false)]) [(3, some (.box [.i a1.Kind, .i a1.From, .i a1.To, .i a1.Term, .i a1.Index, .i a1.PrevTerm, .i a1.Commit, .d (.sl (a1.Entries.map cS64))])), (1000, some (.box [.ref 25000 0 l8.length, .ref 25001 0 a0.leaders.length, .ref 25002 0 a0.network.length])), (9019, R64 x18.log), (9020, R3 x18.match_), (25000, some (.nest 61 4 [none, none, some (64, 2), some (3, 1)] (l8.map cS61) [(k2, [.i x18.term, .i x18.commit, .ref 9019 0 x18.log.length, .ref 9020 0 x18.match_.length])])), (25001, R3 a0.leaders), (25002, R73 a0.network)]) ?_
  refine .runQ 15 fun K k => ?_; simp; refine k _ _ ?_; clear k K
  refine .tt (L14 k2) [(3, some (.box [.i a1.Kind, .i a1.From, .i a1.To, .i a1.Term, .i a1.Index, .i a1.PrevTerm, .i a1.Commit, .d (.sl (a1.Entries.map cS64))])), (1000, some (.box [.ref 25000 0 l8.length, .ref 25001 0 a0.leaders.length, .ref 25002 0 a0.network.length])), (9019, R64 x18.log), (9020, R3 x18.match_), (25000, some (.nest 61 4 [none, none, some (64, 2), some (3, 1)] (l8.map cS61) [(k2, [.i x18.term, .i x18.commit, .ref 9019 0 x18.log.length, .ref 9020 0 x18.match_.length])])), (25001, R3 a0.leaders), (25002, R73 a0.network)] ?_
  refine .sub (.closeSame 25000 k2 (e := cS61 x18) (cs := [.d (.lit (.int .i64 x18.term)), .d (.lit (.int .i64 x18.commit)), .ref 9019 0 x18.log.length, .ref 9020 0 x18.match_.length]) (ks := [9019, 9020]) rfl rfl (by simp [hx18]) (by simp) (by decide) rfl) ?_
  refine .sub (S' := mk 136 [1000] (L14 k2) (H10 a1 l8 a0)) (by simp; exact Sub.table (by simp) (by simp)) ?_
  cases h
  exact .nil .tt
 clear hj
 replace h := isome h; rcases h with ⟨c26, h⟩ | ⟨c26, h⟩
 ·have c26_ : v17 = true := c26
  refine .condT (b := v17) rfl c26_ ?_
  refine .sub (.bool 48 (b := v17) rfl c26_) ?_
  refine .st (mk 136 [1000] (L12 k2) (H10 a1 l8 a0)) ?_
  refine .ret ?_
  cases h
  refine thenQ_pass (by simp) ?_
  exact FinF.ret (by simp) (by simp)
 have c26_ : v17 = false := Bool.eq_false_iff.2 c26
 refine .condF (b := v17) rfl c26_ ?_
 refine .sub (.bool 48 (b := v17) rfl c26_) ?_
 refine .st (mk 136 [1000] (L14 k2) (H10 a1 l8 a0)) ?_
 refine .skip ?_
 refine thenQ_normal ?_
 refine .seq ?_
 refine .seqR ?_
 refine .runK [] 4 fun K k => ?_; simp; refine k _ _ ?_; clear k K
 refine .tt (L11 k2 ++ [(50, .d (.sl (a1.Entries.map cS64))), (51, .i (a1.Entries.length : Int)), (52, .i 0)]) (H10 a1 l8 a0) ?_
 refine .nil ?_
 refine .lastN (fun (l218 : List S61) => mk 136 [1000] [(0, .ptr 1000 0 0), (3, .ptr 3 0 0), (4, .ptr 25000 k2 0)] (H10 a1 l218 a0)) h ?_ ?_ <;> clear h
 ·intro o h
  refine .block ?_
  refine .iter (fun ((l88, v89) : ((List S61) × Int)) => mk 136 [1000] (L15 k2 a1.Entries a1.Entries.length v89) (H10 a1 l88 a0)) h Sub.tt ?_
  clear h
  rintro ⟨l88, v89⟩ x h
  dsimp only at h ⊢
  refine .seqR ?_
  refine .runK [] 1 fun K k => ?_; simp; refine k _ _ ?_; clear k K
  refine .tt (L15 k2 a1.Entries a1.Entries.length v89 ++ [(53, .b (decide (v89 < (a1.Entries.length : Int))))]) (H10 a1 l88 a0) ?_
  refine .nil ?_
  refine .seq ?_
  replace h := isome h; rcases h with ⟨c219, h⟩ | ⟨c219, h⟩
  ·have c219_ : decide (v89 < (a1.Entries.length : Int)) = true := decide_eq_true c219
   refine .condT (b := decide (v89 < (a1.Entries.length : Int))) rfl c219_ ?_
   refine .sub (.bool 53 (b := decide (v89 < (a1.Entries.length : Int))) rfl c219_) ?_
   refine .st (mk 136 [1000] (L15 k2 a1.Entries a1.Entries.length v89 ++ [(53, .b true)]) (H10 a1 l88 a0)) ?_
   refine .skip ?_
   refine thenQ_normal ?_
   refine .seqN (fun (l250 : List S61) => mk 136 [1000] (L15 k2 a1.Entries a1.Entries.length v89) (H10 a1 l250 a0)) h ?_ ?_ <;> clear h
   ·intro o h
    refine .block ?_
    refine .seqR ?_
    replace h := bsome h; obtain ⟨x251, hx251, h⟩ := h
    obtain ⟨k252, hx251k, hx251, hx251a, hx251b⟩ := idx_some hx251
    refine .runK [] 6 fun K k => ?_; simp [hx251, hx251k, hx251a]; refine k _ _ ?_; clear k K
    refine .tt (L11 k2 ++ [(5, .i v89), (6, .ptr 6 0 0), (50, .d (.sl (a1.Entries.map cS64))), (51, .i (a1.Entries.length : Int)), (52, .i v89)]) (H20 a1 x251 l88 a0) ?_
    refine .nil ?_
    refine .seqR ?_
    replace h := bsome h; obtain ⟨v253, hv253, h⟩ := h
    have hv253 := chkI_some hv253
    refine .runK [] 5 fun K k => ?_; simp [hv253]; refine k _ _ ?_; clear k K
    refine .tt (L16 k2 v253 a1.Entries a1.Entries.length v89) (H20 a1 x251 l88 a0) ?_
    refine .nil ?_
    refine .seq ?_
    replace h := bsome h; obtain ⟨v266, hj, h⟩ := h
    refine .cutQ (by kernel_rfl) (by kernel_rfl) (mk 136 [1000] (L16 k2 v253 a1.Entries a1.Entries.length v89 ++ [(80, .b v266)]) (H20 a1 x251 l88 a0)) ?_ ?_
    ·clear h; have h := hj; clear hj
     refine .runQ 4 fun K k => ?_; simp; refine k _ _ ?_; clear k K
     refine .tt (L16 k2 v253 a1.Entries a1.Entries.length v89 ++ [(61, .i v253), (64, .ptr 25000 k2 2)]) (H20 a1 x251 l88 a0) ?_
     replace h := bsome h; obtain ⟨x267, hx267, h⟩ := h
     obtain ⟨hx267, hx267a, hx267b⟩ := idx_some2 hx267 hx1k
     refine .sub (.open 25000 k2 [9268, 9269] (e := cS61 x267) rfl rfl (by simp [hx267]) rfl (by simp) rfl) ?_
     refine .st (mk 136 [1000] (L16 k2 v253 a1.Entries a1.Entries.length v89 ++ [(61, .i v253), (64, .ptr 25000 k2 2)]) [(3, some (.box [.i a1.Kind, .i a1.From, .i a1.To, .i a1.Term, .i a1.Index, .i a1.PrevTerm, .i a1.Commit, .d (.sl (a1.Entries.map cS64))])), (6, some (.box [.i x251.Term, .d (.lit (.string x251.Payload))])), (1000, some (.box [.ref 25000 0 l88.length, .ref 25001 0 a0.leaders.length, .ref 25002 0 a0.network.length])), (9268, R64 x267.log), (9269, R3 x267.match_), (25000, some (.nest 61 4 [none, none, some (64, 2), some (3, 1)] (l88.map cS61) [(k2, [.i x267.term, .i x267.commit, .ref 9268 0 x267.log.length, .ref 9269 0 x267.match_.length])])), (25001, R3 a0.leaders), (25002, R73 a0.network)]) ?_
     refine .runQ 4 fun K k => ?_; simp; refine k _ _ ?_; clear k K
     refine .tt (L16 k2 v253 a1.Entries a1.Entries.length v89 ++ [(68, .b (decide (v253 < (x267.log.length : Int))))]) [(3, some (.box [.i a1.Kind, .i a1.From, .i a1.To, .i a1.Term, .i a1.Index, .i a1.PrevTerm, .i a1.Commit, .d (.sl (a1.Entries.map cS64))])), (6, some (.box [.i x251.Term, .d (.lit (.string x251.Payload))])), (1000, some (.box [.ref 25000 0 l88.length, .ref 25001 0 a0.leaders.length, .ref 25002 0 a0.network.length])), (9268, R64 x267.log), (9269, R3 x267.match_), (25000, some (.nest 61 4 [none, none, some (64, 2), some (3, 1)] (l88.map cS61) [(k2, [.i x267.term, .i x267.commit, .ref 9268 0 x267.log.length, .ref 9269 0 x267.match_.length])])), (25001, R3 a0.leaders), (25002, R73 a0.network)] ?_
     replace h := isome h; rcases h with ⟨c270, h⟩ | ⟨c270, h⟩
     ·have c270_ : decide (v253 < (x267.log.length : Int)) = true := decide_eq_true c270
      refine .sub (.bool 68 (b := decide (v253 < (x267.log.length : Int))) rfl c270_) ?_
      refine .st (mk 136 [1000] (L16 k2 v253 a1.Entries a1.Entries.length v89 ++ [(68, .b true)]) [(3, some (.box [.i a1.Kind, .i a1.From, .i a1.To, .i a1.Term, .i a1.Index, .i a1.PrevTerm, .i a1.Commit, .d (.sl (a1.Entries.map cS64))])), (6, some (.box [.i x251.Term, .d (.lit (.string x251.Payload))])), (1000, some (.box [.ref 25000 0 l88.length, .ref 25001 0 a0.leaders.length, .ref 25002 0 a0.network.length])), (9268, R64 x267.log), (9269, R3 x267.match_), (25000, some (.nest 61 4 [none, none, some (64, 2), some (3, 1)] (l88.map cS61) [(k2, [.i x267.term, .i x267.commit, .ref 9268 0 x267.log.length, .ref 9269 0 x267.match_.length])])), (25001, R3 a0.leaders), (25002, R73 a0.network)]) ?_
      replace h := bsome h; obtain ⟨x271, hx271, h⟩ := h
      obtain ⟨k272, hx271k, hx271, hx271a, hx271b⟩ := idx_some hx271
      refine .runQ 12 fun K k => ?_; simp [hx271, hx271k, hx271a, hx271b]; refine k _ _ ?_; clear k K
      refine .tt (L16 k2 v253 a1.Entries a1.Entries.length v89 ++ [(69, .ptr 25000 k2 0), (70, .ptr 25000 k2 0), (71, .ptr 25000 k2 2), (72, .ref 9268 0 x267.log.length), (73, .i v253), (74, .ptr 9268 k272 0), (75, .ptr 9268 k272 0), (76, .i x271.Term), (77, .ptr 6 0 0), (78, .i x251.Term), (79, .b (x271.Term == x251.Term)), (80, .b (x271.Term == x251.Term))]) [(3, some (.box [.i a1.Kind, .i a1.From, .i a1.To, .i a1.Term, .i a1.Index, .i a1.PrevTerm, .i a1.Commit, .d (.sl (a1.Entries.map cS64))])), (6, some (.box [.i x251.Term, .d (.lit (.string x251.Payload))])), (1000, some (.box [.ref 25000 0 l88.length, .ref 25001 0 a0.leaders.length, .ref 25002 0 a0.network.length])), (9268, R64 x267.log), (9269, R3 x267.match_), (25000, some (.nest 61 4 [none, none, some (64, 2), some (3, 1)] (l88.map cS61) [(k2, [.i x267.term, .i x267.commit, .ref 9268 0 x267.log.length, .ref 9269 0 x267.match_.length])])), (25001, R3 a0.leaders), (25002, R73 a0.network)] ?_
      refine .sub (.closeSame 25000 k2 (e := cS61 x267) (cs := [.d (.lit (.int .i64 x267.term)), .d (.lit (.int .i64 x267.commit)), .ref 9268 0 x267.log.length, .ref 9269 0 x267.match_.length]) (ks := [9268, 9269]) rfl rfl (by simp [hx267]) (by simp) (by decide) rfl) ?_
      refine .sub (S' := mk 136 [1000] (L16 k2 v253 a1.Entries a1.Entries.length v89 ++ [(69, .ptr 25000 k2 0), (70, .ptr 25000 k2 0), (71, .ptr 25000 k2 2), (73, .i v253), (76, .i x271.Term), (77, .ptr 6 0 0), (78, .i x251.Term), (79, .b (x271.Term == x251.Term)), (80, .b (x271.Term == x251.Term))]) (H20 a1 x251 l88 a0)) (by simp; exact Sub.table (by simp) (by simp)) ?_
      cases h
      exact .nil .tt
     have c270_ : decide (v253 < (x267.log.length : Int)) = false := decide_eq_false c270
     refine .sub (.bool 68 (b := decide (v253 < (x267.log.length : Int))) rfl c270_) ?_
     refine .st (mk 136 [1000] (L16 k2 v253 a1.Entries a1.Entries.length v89 ++ [(68, .b false)]) [(3, some (.box [.i a1.Kind, .i a1.From, .i a1.To, .i a1.Term, .i a1.Index, .i a1.PrevTerm, .i a1.Commit, .d (.sl (a1.Entries.map cS64))])), (6, some (.box [.i x251.Term, .d (.lit (.string x251.Payload))])), (1000, some (.box [.ref 25000 0 l88.length, .ref 25001 0 a0.leaders.length, .ref 25002 0 a0.network.length])), (9268, R64 x267.log), (9269, R3 x267.match_), (25000, some (.nest 61 4 [none, none, some (64, 2), some (3, 1)] (l88.map cS61) [(k2, [.i x267.term, .i x267.commit, .ref 9268 0 x267.log.length, .ref 9269 0 x267.match_.length])])), (25001, R3 a0.leaders), (25002, R73 a0.network)]) ?_
     refine .runQ 12 fun K k => ?_; simp; refine k _ _ ?_; clear k K
     refine .tt (L16 k2 v253 a1.Entries a1.Entries.length v89 ++ [(69, .tup []), (70, .tup []), (71, .tup []), (72, .tup []), (73, .tup []), (74, .tup []), (75, .tup []), (76, .tup []), (77, .tup []), (78, .tup []), (79, .tup []), (80, .b false)]) [(3, some (.box [.i a1.Kind, .i a1.From, .i a1.To, .i a1.Term, .i a1.Index, .i a1.PrevTerm, .i a1.Commit, .d (.sl (a1.Entries.map cS64))])), (6, some (.box [.i x251.Term, .d (.lit (.string x251.Payload))])), (1000, some (.box [.ref 25000 0 l88.length, .ref 25001 0 a0.leaders.length, .ref 25002 0 a0.network.length])), (9268, R64 x267.log), (9269, R3 x267.match_), (25000, some (.nest 61 4 [none, none, some (64, 2), some (3, 1)] (l88.map cS61) [(k2, [.i x267.term, .i x267.commit, .ref 9268 0 x267.log.length, .ref 9269 0 x267.match_.length])])), (25001, R3 a0.leaders), (25002, R73 a0.network)] ?_
     refine .sub (.closeSame 25000 k2 (e := cS61 x267) (cs := [.d (.lit (.int .i64 x267.term)), .d (.lit (.int .i64 x267.commit)), .ref 9268 0 x267.log.length, .ref 9269 0 x267.match_.length]) (ks := [9268, 9269]) rfl rfl (by simp [hx267]) (by simp) (by decide) rfl) ?_
     refine .sub (S' := mk 136 [1000] (L16 k2 v253 a1.Entries a1.Entries.length v89 ++ [(69, .tup []), (70, .tup []), (71, .tup []), (72, .tup []), (73, .tup []), (74, .tup []), (75, .tup []), (76, .tup []), (77, .tup []), (78, .tup []), (79, .tup []), (80, .b false)]) (H20 a1 x251 l88 a0)) (by simp; exact Sub.table (by simp) (by simp)) ?_
     cases h
     exact .nil .tt
    clear hj
    replace h := isome h; rcases h with ⟨c273, h⟩ | ⟨c273, h⟩
    ·have c273_ : v266 = true := c273
     refine .condT (b := v266) rfl c273_ ?_
     refine .sub (.bool 80 (b := v266) rfl c273_) ?_
     refine .st (mk 136 [1000] (L16 k2 v253 a1.Entries a1.Entries.length v89 ++ [(80, .b true)]) (H20 a1 x251 l88 a0)) ?_
     refine .exit ?_
     cases h
     refine thenQ_pass (by simp) ?_
     refine blockQ.hit ?_
     refine PostN.next ?_
     exact Sub.tt
    have c273_ : v266 = false := Bool.eq_false_iff.2 c273
    refine .condF (b := v266) rfl c273_ ?_
    refine .sub (.bool 80 (b := v266) rfl c273_) ?_
    refine .st (mk 136 [1000] (L16 k2 v253 a1.Entries a1.Entries.length v89 ++ [(80, .b false)]) (H20 a1 x251 l88 a0)) ?_
    refine .skip ?_
    refine thenQ_normal ?_
    replace h := bsome h; obtain ⟨x274, hx274, h⟩ := h
    obtain ⟨hx274, hx274a, hx274b⟩ := idx_some2 hx274 hx1k
    refine .sub (.open 25000 k2 [9275, 9276] (e := cS61 x274) rfl rfl (by simp [hx274]) rfl (by simp) rfl) ?_
    refine .st (mk 136 [1000] (L16 k2 v253 a1.Entries a1.Entries.length v89 ++ [(80, .b false)]) [(3, some (.box [.i a1.Kind, .i a1.From, .i a1.To, .i a1.Term, .i a1.Index, .i a1.PrevTerm, .i a1.Commit, .d (.sl (a1.Entries.map cS64))])), (6, some (.box [.i x251.Term, .d (.lit (.string x251.Payload))])), (1000, some (.box [.ref 25000 0 l88.length, .ref 25001 0 a0.leaders.length, .ref 25002 0 a0.network.length])), (9275, R64 x274.log), (9276, R3 x274.match_), (25000, some (.nest 61 4 [none, none, some (64, 2), some (3, 1)] (l88.map cS61) [(k2, [.i x274.term, .i x274.commit, .ref 9275 0 x274.log.length, .ref 9276 0 x274.match_.length])])), (25001, R3 a0.leaders), (25002, R73 a0.network)]) ?_
    replace h := bsome h; obtain ⟨n277, gn277, h⟩ := h
    obtain ⟨hn277a, hn277⟩ := natI_some gn277
    clear gn277
    subst hn277a
    replace h := bsome h; obtain ⟨r278, hr278, h⟩ := h
    replace h := bsome h; obtain ⟨l279, hl279, h⟩ := h
    obtain ⟨hl279a, hl279⟩ := appL_some hl279
    subst hl279
    try simp only [List.length_cons, List.length_nil, Nat.zero_add] at hl279a
    refine .lastAnyS [[], [], [1], [1, 2], [1, 2, 3], [], [1, 2, 3, 4, 5], [1, 2, 3, 4, 5, 6], [], [8], [1, 2, 3, 4, 5, 6, 7, 8, 9], [0, 1, 2, 3, 4, 5, 6, 7, 8, 9, 10], [0, 1, 2, 3, 4, 5, 6, 7, 8, 9, 10, 11], [0, 1, 2, 3, 4, 5, 6, 7, 8, 9, 10, 11, 12]] (fun (b : Nat → Bool) => mk 136 [1000] [(0, .ptr 1000 0 0), (3, .ptr 3 0 0), (4, .ptr 25000 k2 0), (6, .ptr 6 0 0), (7, .i (n277 : Int)), (50, .d (.sl (a1.Entries.map cS64))), (51, .i (a1.Entries.length : Int)), (52, .i v89), (81, (if b 0 then .ptr 25000 k2 0 else .junk)), (82, (if b 1 then .ptr 25000 k2 0 else .junk)), (83, (if b 2 then .ptr 25000 k2 0 else .junk)), (84, (if b 3 then .ptr 25000 k2 2 else .junk)), (85, (if b 4 then .ref 9275 0 x274.log.length else .junk)), (86, (if b 5 then .i (n277 : Int) else .junk)), (87, (if b 6 then .ref 9275 0 n277 else .junk)), (88, (if b 10 then .junk else (if b 7 then .ref 88 0 r278.length else .junk))), (89, (if b 8 then .agg [.i x251.Term, .d (.lit (.string x251.Payload))] else .junk)), (90, (if b 9 then .d (.sl ([x251].map cS64)) else .junk)), (91, (if b 10 then .ref 88 0 ((r278 ++ [x251]).length) else .junk)), (92, (if b 11 then .ptr 25000 k2 0 else .junk)), (93, (if b 12 then .ptr 25000 k2 2 else .junk))] [(3, some (.box [.i a1.Kind, .i a1.From, .i a1.To, .i a1.Term, .i a1.Index, .i a1.PrevTerm, .i a1.Commit, .d (.sl (a1.Entries.map cS64))])), (6, some (.box [.i x251.Term, .d (.lit (.string x251.Payload))])), (88, (if b 10 then R64 (r278 ++ [x251]) else (if b 7 then R64 r278 else none))), (1000, some (.box [.ref 25000 0 l88.length, .ref 25001 0 a0.leaders.length, .ref 25002 0 a0.network.length])), (9275, R64 x274.log), (9276, R3 x274.match_), (25000, (if b 13 then some (.nest 61 4 [none, none, some (64, 2), some (3, 1)] (l88.map cS61) [(k2, [.i x274.term, .i x274.commit, .ref 88 0 ((r278 ++ [x251]).length), .ref 9276 0 x274.match_.length])]) else some (.nest 61 4 [none, none, some (64, 2), some (3, 1)] (l88.map cS61) [(k2, [.i x274.term, .i x274.commit, .ref 9275 0 x274.log.length, .ref 9276 0 x274.match_.length])]))), (25001, R3 a0.leaders), (25002, R73 a0.network)]) (mk 136 [1000] (L15 k2 a1.Entries a1.Entries.length v89) [(3, some (.box [.i a1.Kind, .i a1.From, .i a1.To, .i a1.Term, .i a1.Index, .i a1.PrevTerm, .i a1.Commit, .d (.sl (a1.Entries.map cS64))])), (88, R64 (r278 ++ [x251])), (1000, some (.box [.ref 25000 0 l88.length, .ref 25001 0 a0.leaders.length, .ref 25002 0 a0.network.length])), (9276, R3 x274.match_), (25000, some (.nest 61 4 [none, none, some (64, 2), some (3, 1)] (l88.map cS61) [(k2, [.i x274.term, .i x274.commit, .ref 88 0 ((r278 ++ [x251]).length), .ref 9276 0 x274.match_.length])])), (25001, R3 a0.leaders), (25002, R73 a0.network)]) (by kernel_rfl) (by kernel_rfl) Sub.tt (Steps.cons ?_ (Steps.cons ?_ (Steps.cons ?_ (Steps.cons ?_ (Steps.cons ?_ (Steps.cons ?_ (Steps.cons ?_ (Steps.cons ?_ (Steps.cons ?_ (Steps.cons ?_ (Steps.cons ?_ (Steps.cons ?_ (Steps.cons ?_ (Steps.cons ?_ (Steps.nil))))))))))))))) ?_ ?_
    iterate 6
     ·intro b h0 ha hd
      have T := fct h0 ha hd; simp at T
      refine .runK [90] 1 fun K k => ?_; simp [T]; refine k _ _ ?_; clear k K
      exact .nil (.table (by simp [T]) (by simp [T]))
    ·intro b h0 ha hd
     have T := fct h0 ha hd; simp at T
     refine .runK [90] 1 fun K k => ?_; simp [T, hn277]; refine k _ _ ?_; clear k K
     exact .nil (.table (by simp [T]) (by simp [T]))
    ·intro b h0 ha hd
     have T := fct h0 ha hd; simp at T
     simp only [T, if_true, if_false, Bool.false_eq_true]
     refine .callOF (d := 88) (p26 N (x274.log.take n277) r278 hr278) (by simp) rfl rfl (by simp <;> rfl) (by simp [hn277] <;> rfl) ent26 (by simp) (fun r h => flat_of_ren r h) (flat_map (by simp) _) ?_
     exact .nil (by simp [T]; exact Sub.table (by simp) (by simp))
    ·intro b h0 ha hd
     have T := fct h0 ha hd; simp at T
     refine .runK [90] 1 fun K k => ?_; simp [T]; refine k _ _ ?_; clear k K
     exact .nil (.table (by simp [T]) (by simp [T]))
    ·intro b h0 ha hd
     have T := fct h0 ha hd; simp at T
     cases q7 : b 7 <;> (refine Chain.runK [90] 1 fun K k => ?_; simp [T]; refine k _ _ ?_; clear k K; exact .nil (.table (by simp [T, q7]) (by simp [T, q7])))
    ·intro b h0 ha hd
     have T := fct h0 ha hd; simp at T
     refine .runK [90] 1 fun K k => ?_; simp [T, hl279a]; refine k _ _ ?_; clear k K
     exact .nil (.table (by simp [T]) (by simp [T]))
    iterate 3
     ·intro b h0 ha hd
      have T := fct h0 ha hd; simp at T
      refine .runK [90] 1 fun K k => ?_; simp [T]; refine k _ _ ?_; clear k K
      exact .nil (.table (by simp [T]) (by simp [T]))
    ·intro b hb
     have t0 := hb 0 (by decide)
     have t1 := hb 1 (by decide)
     have t2 := hb 2 (by decide)
     have t3 := hb 3 (by decide)
     have t4 := hb 4 (by decide)
     have t5 := hb 5 (by decide)
     have t6 := hb 6 (by decide)
     have t7 := hb 7 (by decide)
     have t8 := hb 8 (by decide)
     have t9 := hb 9 (by decide)
     have t10 := hb 10 (by decide)
     have t11 := hb 11 (by decide)
     have t12 := hb 12 (by decide)
     have t13 := hb 13 (by decide)
     exact Sub.table (by simp [t0, t1, t2, t3, t4, t5, t6, t8, t9, t10, t11, t12]) (by simp [t10, t13])
    skip
    replace h := lsome h; obtain ⟨l280, gl280, h⟩ := h
    obtain ⟨hl280, hl280n⟩ := setI_some cS61 gl280 hx1k
    replace hl280 : (l88.map cS61).set k2 [.lit (.int .i64 x274.term), .lit (.int .i64 x274.commit), .sl ((r278 ++ [x251]).map cS64), .sl (x274.match_.map (cI .i64))] = l280.map cS61 := hl280
    clear gl280
    try simp only [List.map_append, List.map_cons, List.map_nil, cS64] at hl280
    obtain rfl := Option.some.inj h
    refine blockQ.normal ?_
    refine PostN.next ?_
    exact (Sub.trans (show Go.Ab.Sub _ (mk 136 [1000] (L15 k2 a1.Entries a1.Entries.length v89) (H10 a1 l280 a0)) from (Sub.trans (Sub.close 25000 k2 (e := [.lit (.int .i64 x274.term), .lit (.int .i64 x274.commit), .sl ((r278 ++ [x251]).map cS64), .sl (x274.match_.map (cI .i64))]) (cs := [.i x274.term, .i x274.commit, .ref 88 0 ((r278 ++ [x251]).length), .ref 9276 0 x274.match_.length]) (ks := [88, 9276]) rfl rfl (by simp) (by decide) rfl) (by simp [hl280]; exact Sub.table (by simp) (by simp [hl280n])))) Sub.tt)
   rintro l250 h
   refine .region ?_
   replace h := bsome h; obtain ⟨v281, hv281, h⟩ := h
   have hv281 := chkI_some hv281
   refine .runK [] 2 fun K k => ?_; simp [hv281]; refine k _ _ ?_; clear k K
   refine .tt (L15 k2 a1.Entries a1.Entries.length v281) (H10 a1 l250 a0) ?_
   refine .nil ?_
   cases h
   refine PostI.next ?_
   exact Sub.tt
  have c219_ : decide (v89 < (a1.Entries.length : Int)) = false := decide_eq_false c219
  refine .condF (b := decide (v89 < (a1.Entries.length : Int))) rfl c219_ ?_
  refine .sub (.bool 53 (b := decide (v89 < (a1.Entries.length : Int))) rfl c219_) ?_
  refine .st (mk 136 [1000] (L15 k2 a1.Entries a1.Entries.length v89 ++ [(53, .b false)]) (H10 a1 l88 a0)) ?_
  refine .exit ?_
  cases h
  refine thenQ_pass (by simp) ?_
  refine PostI.out (by simp) ?_
  rintro rfl
  refine blockQ.hit ?_
  refine PostN.next ?_
  exact Sub.tt
 rintro l218 h
 refine thenQ_normal ?_
 refine .seqR ?_
 replace h := bsome h; obtain ⟨v282, hv282, h⟩ := h
 have hv282 := chkI_some hv282
 refine .runK [] 7 fun K k => ?_; simp [hv282]; refine k _ _ ?_; clear k K
 refine .tt (L17 k2 v282) (H10 a1 l218 a0) ?_
 refine .nil ?_
 replace h := bsome h; obtain ⟨x283, hx283, h⟩ := h
 obtain ⟨hx283, hx283a, hx283b⟩ := idx_some2 hx283 hx1k
 refine .sub (.open 25000 k2 [9284, 9285] (e := cS61 x283) rfl rfl (by simp [hx283]) rfl (by simp) rfl) ?_
 refine .st (mk 136 [1000] (L17 k2 v282) [(3, some (.box [.i a1.Kind, .i a1.From, .i a1.To, .i a1.Term, .i a1.Index, .i a1.PrevTerm, .i a1.Commit, .d (.sl (a1.Entries.map cS64))])), (1000, some (.box [.ref 25000 0 l218.length, .ref 25001 0 a0.leaders.length, .ref 25002 0 a0.network.length])), (9284, R64 x283.log), (9285, R3 x283.match_), (25000, some (.nest 61 4 [none, none, some (64, 2), some (3, 1)] (l218.map cS61) [(k2, [.i x283.term, .i x283.commit, .ref 9284 0 x283.log.length, .ref 9285 0 x283.match_.length])])), (25001, R3 a0.leaders), (25002, R73 a0.network)]) ?_
 replace h := lsome h; obtain ⟨v286, hv286, h⟩ := h
 unfold minI at hv286
 replace h := lsome h; obtain ⟨v287, hv287, h⟩ := h
 unfold maxI at hv287
 refine .seqAnyS [[], [], [1], [1, 2], [1, 2, 3], [], [5], [], [5, 6, 7], [1, 2, 3, 4, 5, 6, 7, 8], [0, 1, 2, 3, 4, 5, 6, 7, 8, 9], [0, 1, 2, 3, 4, 5, 6, 7, 8, 9, 10], [0, 1, 2, 3, 4, 5, 6, 7, 8, 9, 10, 11]] (fun (b : Nat → Bool) => mk 136 [1000] [(0, .ptr 1000 0 0), (3, .ptr 3 0 0), (4, .ptr 25000 k2 0), (8, .i v282), (101, (if b 0 then .ptr 25000 k2 0 else .junk)), (102, (if b 1 then .ptr 25000 k2 0 else .junk)), (103, (if b 2 then .ptr 25000 k2 0 else .junk)), (104, (if b 3 then .ptr 25000 k2 1 else .junk)), (105, (if b 4 then .i x283.commit else .junk)), (106, (if b 5 then .ptr 3 0 6 else .junk)), (107, (if b 6 then .i a1.Commit else .junk)), (108, (if b 7 then .i v282 else .junk)), (109, (if b 8 then .i v286 else .junk)), (110, (if b 9 then .i v287 else .junk)), (111, (if b 10 then .ptr 25000 k2 0 else .junk)), (112, (if b 11 then .ptr 25000 k2 1 else .junk))] [(3, some (.box [.i a1.Kind, .i a1.From, .i a1.To, .i a1.Term, .i a1.Index, .i a1.PrevTerm, .i a1.Commit, .d (.sl (a1.Entries.map cS64))])), (1000, some (.box [.ref 25000 0 l218.length, .ref 25001 0 a0.leaders.length, .ref 25002 0 a0.network.length])), (9284, R64 x283.log), (9285, R3 x283.match_), (25000, (if b 12 then some (.nest 61 4 [none, none, some (64, 2), some (3, 1)] (l218.map cS61) [(k2, [.i x283.term, .i v287, .ref 9284 0 x283.log.length, .ref 9285 0 x283.match_.length])]) else some (.nest 61 4 [none, none, some (64, 2), some (3, 1)] (l218.map cS61) [(k2, [.i x283.term, .i x283.commit, .ref 9284 0 x283.log.length, .ref 9285 0 x283.match_.length])]))), (25001, R3 a0.leaders), (25002, R73 a0.network)]) (mk 136 [1000] [(0, .ptr 1000 0 0), (3, .ptr 3 0 0), (8, .i v282)] [(3, some (.box [.i a1.Kind, .i a1.From, .i a1.To, .i a1.Term, .i a1.Index, .i a1.PrevTerm, .i a1.Commit, .d (.sl (a1.Entries.map cS64))])), (1000, some (.box [.ref 25000 0 l218.length, .ref 25001 0 a0.leaders.length, .ref 25002 0 a0.network.length])), (9284, R64 x283.log), (9285, R3 x283.match_), (25000, some (.nest 61 4 [none, none, some (64, 2), some (3, 1)] (l218.map cS61) [(k2, [.i x283.term, .i v287, .ref 9284 0 x283.log.length, .ref 9285 0 x283.match_.length])])), (25001, R3 a0.leaders), (25002, R73 a0.network)]) (by kernel_rfl) (by kernel_rfl) Sub.tt (Steps.cons ?_ (Steps.cons ?_ (Steps.cons ?_ (Steps.cons ?_ (Steps.cons ?_ (Steps.cons ?_ (Steps.cons ?_ (Steps.cons ?_ (Steps.cons ?_ (Steps.cons ?_ (Steps.cons ?_ (Steps.cons ?_ (Steps.cons ?_ (Steps.nil)))))))))))))) ?_ ?_
 iterate 8
  ·intro b h0 ha hd
   have T := fct h0 ha hd; simp at T
   refine .runK [] 1 fun K k => ?_; simp [T]; refine k _ _ ?_; clear k K
   exact .nil (.table (by simp [T]) (by simp [T]))
 ·intro b h0 ha hd
  have T := fct h0 ha hd; simp at T
  refine .runK [] 1 fun K k => ?_; simp [T, hv286]; refine k _ _ ?_; clear k K
  exact .nil (.table (by simp [T]) (by simp [T]))
 ·intro b h0 ha hd
  have T := fct h0 ha hd; simp at T
  refine .runK [] 1 fun K k => ?_; simp [T, hv287]; refine k _ _ ?_; clear k K
  exact .nil (.table (by simp [T]) (by simp [T]))
 iterate 3
  ·intro b h0 ha hd
   have T := fct h0 ha hd; simp at T
   refine .runK [] 1 fun K k => ?_; simp [T]; refine k _ _ ?_; clear k K
   exact .nil (.table (by simp [T]) (by simp [T]))
 ·intro b hb
  have t0 := hb 0 (by decide)
  have t1 := hb 1 (by decide)
  have t2 := hb 2 (by decide)
  have t3 := hb 3 (by decide)
  have t4 := hb 4 (by decide)
  have t5 := hb 5 (by decide)
  have t6 := hb 6 (by decide)
  have t7 := hb 7 (by decide)
  have t8 := hb 8 (by decide)
  have t9 := hb 9 (by decide)
  have t10 := hb 10 (by decide)
  have t11 := hb 11 (by decide)
  have t12 := hb 12 (by decide)
  exact Sub.table (by simp [t0, t1, t2, t3, t4, t5, t6, t7, t8, t9, t10, t11]) (by simp [t12])
 skip
 replace h := lsome h; obtain ⟨l288, gl288, h⟩ := h
 obtain ⟨hl288, hl288n⟩ := setI_some cS61 gl288 hx1k
 replace hl288 : (l218.map cS61).set k2 [.lit (.int .i64 x283.term), .lit (.int .i64 v287), .sl (x283.log.map cS64), .sl (x283.match_.map (cI .i64))] = l288.map cS61 := hl288
 clear gl288
 refine .sub (show Go.Ab.Sub _ (mk 136 [1000] [(0, .ptr 1000 0 0), (3, .ptr 3 0 0), (8, .i v282)] (H10 a1 l288 a0)) from (Sub.trans (Sub.close 25000 k2 (e := [.lit (.int .i64 x283.term), .lit (.int .i64 v287), .sl (x283.log.map cS64), .sl (x283.match_.map (cI .i64))]) (cs := [.i x283.term, .i v287, .ref 9284 0 x283.log.length, .ref 9285 0 x283.match_.length]) (ks := [9284, 9285]) rfl rfl (by simp) (by decide) rfl) (by simp [hl288]; exact Sub.table (by simp) (by simp [hl288n])))) ?_
 refine .seqR ?_
 refine .runK [] 6 fun K k => ?_; simp; refine k _ _ ?_; clear k K
 refine .tt (L18 v282 ++ [(118, .b (decide ((a0.network.length : Int) < 100)))]) (H10 a1 l288 a0) ?_
 refine .nil ?_
 replace h := isome h; rcases h with ⟨c289, h⟩ | ⟨c289, h⟩
 ·have c289_ : decide ((a0.network.length : Int) < 100) = true := decide_eq_true c289
  refine .condT (b := decide ((a0.network.length : Int) < 100)) rfl c289_ ?_
  refine .sub (.bool 118 (b := decide ((a0.network.length : Int) < 100)) rfl c289_) ?_
  refine .st (mk 136 [1000] (L18 v282 ++ [(118, .b true)]) (H10 a1 l288 a0)) ?_
  replace h := bsome h; obtain ⟨l290, hl290, h⟩ := h
  obtain ⟨hl290a, hl290⟩ := appL_some hl290
  subst hl290
  try simp only [List.length_cons, List.length_nil, Nat.zero_add] at hl290a
  refine .lastAnyS [[], [], [1], [1, 2], [1, 2, 3], [], [5], [], [7], [], [9], [], [5, 6, 7, 8, 9, 10, 11], [5, 6, 7, 8, 9, 10, 11, 12], [1, 2, 3, 4, 5, 6, 7, 8, 9, 10, 11, 12, 13], [0, 1, 2, 3, 4, 5, 6, 7, 8, 9, 10, 11, 12, 13, 14], [0, 1, 2, 3, 4, 5, 6, 7, 8, 9, 10, 11, 12, 13, 14, 15], [0, 1, 2, 3, 4, 5, 6, 7, 8, 9, 10, 11, 12, 13, 14, 15, 16]] (fun (b : Nat → Bool) => mk 136 [1000] [(0, .ptr 1000 0 0), (3, .ptr 3 0 0), (8, .i v282), (119, (if b 0 then .ptr 1000 0 0 else .junk)), (120, (if b 1 then .ptr 1000 0 0 else .junk)), (121, (if b 2 then .ptr 1000 0 0 else .junk)), (122, (if b 3 then .ptr 1000 0 2 else .junk)), (123, (if b 14 then .junk else (if b 4 then .ref 25002 0 a0.network.length else .junk))), (124, (if b 5 then .ptr 3 0 2 else .junk)), (125, (if b 6 then .i a1.To else .junk)), (126, (if b 7 then .ptr 3 0 1 else .junk)), (127, (if b 8 then .i a1.From else .junk)), (128, (if b 9 then .ptr 3 0 3 else .junk)), (129, (if b 10 then .i a1.Term else .junk)), (130, (if b 11 then .i v282 else .junk)), (131, (if b 12 then .agg [.i 2, .i a1.To, .i a1.From, .i a1.Term, .i v282, .i 0, .i 0, .d (.sl (([] : List S64).map cS64))] else .junk)), (132, (if b 13 then .d (.sl ([(S73.mk 2 a1.To a1.From a1.Term v282 0 0 ([] : List S64))].map cS73)) else .junk)), (133, (if b 14 then .ref 25002 0 ((a0.network ++ [(S73.mk 2 a1.To a1.From a1.Term v282 0 0 ([] : List S64))]).length) else .junk)), (134, (if b 15 then .ptr 1000 0 0 else .junk)), (135, (if b 16 then .ptr 1000 0 2 else .junk))] [(3, some (.box [.i a1.Kind, .i a1.From, .i a1.To, .i a1.Term, .i a1.Index, .i a1.PrevTerm, .i a1.Commit, .d (.sl (a1.Entries.map cS64))])), (1000, (if b 17 then some (.box [.ref 25000 0 l288.length, .ref 25001 0 a0.leaders.length, .ref 25002 0 ((a0.network ++ [(S73.mk 2 a1.To a1.From a1.Term v282 0 0 ([] : List S64))]).length)]) else (if b 14 then some (.box [.ref 25000 0 l288.length, .ref 25001 0 a0.leaders.length, .hole]) else some (.box [.ref 25000 0 l288.length, .ref 25001 0 a0.leaders.length, .ref 25002 0 a0.network.length])))), (25000, some (.nest 61 4 [none, none, some (64, 2), some (3, 1)] (l288.map cS61) [])), (25001, R3 a0.leaders), (25002, (if b 14 then R73 (a0.network ++ [(S73.mk 2 a1.To a1.From a1.Term v282 0 0 ([] : List S64))]) else R73 a0.network))]) (mk 136 [1000] [] [(1000, some (.box [.ref 25000 0 l288.length, .ref 25001 0 a0.leaders.length, .ref 25002 0 ((a0.network ++ [(S73.mk 2 a1.To a1.From a1.Term v282 0 0 ([] : List S64))]).length)])), (25000, some (.nest 61 4 [none, none, some (64, 2), some (3, 1)] (l288.map cS61) [])), (25001, R3 a0.leaders), (25002, R73 (a0.network ++ [(S73.mk 2 a1.To a1.From a1.Term v282 0 0 ([] : List S64))]))]) (by kernel_rfl) (by kernel_rfl) Sub.tt (Steps.cons ?_ (Steps.cons ?_ (Steps.cons ?_ (Steps.cons ?_ (Steps.cons ?_ (Steps.cons ?_ (Steps.cons ?_ (Steps.cons ?_ (Steps.cons ?_ (Steps.cons ?_ (Steps.cons ?_ (Steps.cons ?_ (Steps.cons ?_ (Steps.cons ?_ (Steps.cons ?_ (Steps.cons ?_ (Steps.cons ?_ (Steps.cons ?_ (Steps.nil))))))))))))))))))) ?_ ?_
  iterate 12
   ·intro b h0 ha hd
    have T := fct h0 ha hd; simp at T
    refine .runK [132] 1 fun K k => ?_; simp [T]; refine k _ _ ?_; clear k K
    exact .nil (.table (by simp [T]) (by simp [T]))
  ·intro b h0 ha hd
   have T := fct h0 ha hd; simp at T
   refine .runK [132] 1 fun K k => ?_; simp [T]; refine k _ _ ?_; clear k K
   refine .sub (.wk 131 rfl) ?_
   exact .nil (by simp [T]; exact Sub.table (by simp) (by simp))
  ·intro b h0 ha hd
   have T := fct h0 ha hd; simp at T
   refine .runK [132] 1 fun K k => ?_; simp [T]; refine k _ _ ?_; clear k K
   exact .nil (.table (by simp [T]) (by simp [T]))
  ·intro b h0 ha hd
   have T := fct h0 ha hd; simp at T
   refine .runK [132] 1 fun K k => ?_; simp [T, hl290a]; refine k _ _ ?_; clear k K
   exact .nil (.table (by simp [T]) (by simp [T]))
  iterate 3
   ·intro b h0 ha hd
    have T := fct h0 ha hd; simp at T
    refine .runK [132] 1 fun K k => ?_; simp [T]; refine k _ _ ?_; clear k K
    exact .nil (.table (by simp [T]) (by simp [T]))
  ·intro b hb
   have t0 := hb 0 (by decide)
   have t1 := hb 1 (by decide)
   have t2 := hb 2 (by decide)
   have t3 := hb 3 (by decide)
   have t4 := hb 4 (by decide)
   have t5 := hb 5 (by decide)
   have t6 := hb 6 (by decide)
   have t7 := hb 7 (by decide)
   have t8 := hb 8 (by decide)
   have t9 := hb 9 (by decide)
   have t10 := hb 10 (by decide)
   have t11 := hb 11 (by decide)
   have t12 := hb 12 (by decide)
   have t13 := hb 13 (by decide)
   have t14 := hb 14 (by decide)
   have t15 := hb 15 (by decide)
   have t16 := hb 16 (by decide)
   have t17 := hb 17 (by decide)
   exact Sub.table (by simp [t0, t1, t2, t3, t5, t6, t7, t8, t9, t10, t11, t12, t13, t14, t15, t16]) (by simp [t14, t17])
  skip
  cases h
  exact FinF.normal (by simp) (by simp)
 have c289_ : decide ((a0.network.length : Int) < 100) = false := decide_eq_false c289
 refine .condF (b := decide ((a0.network.length : Int) < 100)) rfl c289_ ?_
 refine .sub (.bool 118 (b := decide ((a0.network.length : Int) < 100)) rfl c289_) ?_
 refine .st (mk 136 [1000] (L18 v282 ++ [(118, .b false)]) (H10 a1 l288 a0)) ?_
 refine .skip ?_
 cases h
 exact FinF.normal (by simp) (by simp)
end Go.Proofs.Ytifcmomjjkbboab
