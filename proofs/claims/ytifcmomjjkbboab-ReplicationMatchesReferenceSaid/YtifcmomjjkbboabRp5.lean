/- Functions of the program as functional programs; the code computes them. -/
import Derived.Test.YtifcmomjjkbboabRp4
namespace Go.Proofs.Ytifcmomjjkbboab
open Go.Ab Go.Rp
attribute [-simp] List.all_eq_true Array.all_toList Array.all_eq_true

/-- (*stemma/stemref5.Cluster).AdvanceCommit -/
def d27 (N : Nat) (a0 : S44) (a1 : Int) : Option S44 :=
 (idx a0.Servers a1).bind fun _x1 =>
 (idx a0.Servers a1).bind fun x5 =>
 (idx x5.Match a1).bind fun _x8 =>
 letv (setI x5.Match a1 (x5.Log.length : Int)) fun l9 =>
 letv (setI a0.Servers a1 (S68.mk x5.Term x5.Commit x5.Log l9)) fun l10 =>
 (idx l10 a1).bind fun x11 =>
 bindO (β := Unit) (ρ := S44) (
  iterN (σ := Int) (ρ := (Out Unit S44)) (fun (v67 : Int) =>
   (idx l10 a1).bind fun x175 =>
   if v67 > x175.Commit then (
    (idx l10 a1).bind fun x179 =>
    Option.bind (α := Int) (
     iterN (σ := (Int × Int)) (ρ := Int) (fun ((v188, v189) : (Int × Int)) =>
      if v189 < (x179.Match.length : Int) then (
       (idx x179.Match v189).bind fun x208 =>
       if x208 ≥ v67 then (
        (chkI (v188 + 1)).bind fun v211 =>
        (chkI (v189 + 1)).bind fun v212 =>
        some (.inl (v211, v212))
       ) else
       (chkI (v189 + 1)).bind fun v213 =>
       some (.inl (v188, v213))
      ) else
      some (.inr v188)
     ) N (0, 0)
    ) fun (v206 : Int) =>
    (chkI (2 * v206)).bind fun v214 =>
    if v214 > (l10.length : Int) then (
     (idx l10 a1).bind fun x216 =>
     (chkI (v67 - 1)).bind fun v219 =>
     (idx x216.Log v219).bind fun x220 =>
     if (x220.Term == x216.Term) then (
      (idx l10 a1).bind fun x223 =>
      letv (setI l10 a1 (S68.mk x223.Term v67 x223.Log x223.Match)) fun l226 =>
      some (.inr (.ret (S44.mk l226 a0.Leaders a0.Network)))
     ) else
     some (.inr (.ret (S44.mk l10 a0.Leaders a0.Network)))
    ) else
    (chkI (v67 - 1)).bind fun v227 =>
    some (.inl v227)
   ) else
   some (.inr (.go ()))
  ) N (x11.Log.length : Int)
 ) fun (_ : Unit) =>
 some (S44.mk l10 a0.Leaders a0.Network)
set_option maxRecDepth 100000 in
set_option maxHeartbeats 4000000 in
theorem p27 (N : Nat) (a0 : S44) (a1 : Int) (r : S44) (h : d27 N a0 a1 = some r) : FunM Try.prog 27 [.ptr 1000 0 0, .i a1] [(1000, some (.box [.ref 25000 0 a0.Servers.length, .ref 25001 0 a0.Leaders.length, .ref 25002 0 a0.Network.length])), (25000, some (.nest 68 4 [none, none, some (71, 2), some (3, 1)] (a0.Servers.map cS68) [])), (25001, R3 a0.Leaders), (25002, R47 a0.Network)] [1000] (.tup []) ([(1000, (.box [.ref 25000 0 r.Servers.length, .ref 25001 0 r.Leaders.length, .ref 25002 0 r.Network.length])), (25000, (.nest 68 4 [none, none, some (71, 2), some (3, 1)] (r.Servers.map cS68) [])), (25001, (.arr 3 1 (r.Leaders.map (cI .i64)))), (25002, (.arr 47 8 (r.Network.map cS73)))]) := by
 unfold d27 at h
 refine FunM.enter 80 [(0, .ptr 1000 0 0), (1, .i a1)] Try.func27 rfl (of_decide_eq_true rfl) rfl rfl ?_
 refine .seqR ?_
 refine .runK [] 5 fun K k => ?_; simp; refine k _ _ ?_; clear k K
 refine .tt [(0, .ptr 1000 0 0), (1, .i a1), (12, .ref 25000 0 a0.Servers.length), (13, .i a1)] (H4 a0) ?_
 replace h := bsome h; obtain ⟨x1, hx1, h⟩ := h
 obtain ⟨k2, hx1k, hx1, hx1a, hx1b⟩ := idx_some hx1
 refine .sub (.open 25000 k2 [9003, 9004] (e := cS68 x1) rfl rfl (by simp [hx1]) rfl (by simp) rfl) ?_
 refine .st (mk 80 [1000] [(0, .ptr 1000 0 0), (1, .i a1), (12, .ref 25000 0 a0.Servers.length), (13, .i a1)] [(1000, some (.box [.ref 25000 0 a0.Servers.length, .ref 25001 0 a0.Leaders.length, .ref 25002 0 a0.Network.length])), (9003, R71 x1.Log), (9004, R3 x1.Match), (25000, some (.nest 68 4 [none, none, some (71, 2), some (3, 1)] (a0.Servers.map cS68) [(k2, [.i x1.Term, .i x1.Commit, .ref 9003 0 x1.Log.length, .ref 9004 0 x1.Match.length])])), (25001, R3 a0.Leaders), (25002, R47 a0.Network)]) ?_
 refine .runK [] 2 fun K k => ?_; simp [hx1k, hx1a, hx1b]; refine k _ _ ?_; clear k K
 refine .tt [(0, .ptr 1000 0 0), (1, .i a1), (4, .ptr 25000 k2 0)] [(1000, some (.box [.ref 25000 0 a0.Servers.length, .ref 25001 0 a0.Leaders.length, .ref 25002 0 a0.Network.length])), (9003, R71 x1.Log), (9004, R3 x1.Match), (25000, some (.nest 68 4 [none, none, some (71, 2), some (3, 1)] (a0.Servers.map cS68) [(k2, [.i x1.Term, .i x1.Commit, .ref 9003 0 x1.Log.length, .ref 9004 0 x1.Match.length])])), (25001, R3 a0.Leaders), (25002, R47 a0.Network)] ?_
 refine .sub (.closeSame 25000 k2 (e := cS68 x1) (cs := [.d (.lit (.int .i64 x1.Term)), .d (.lit (.int .i64 x1.Commit)), .ref 9003 0 x1.Log.length, .ref 9004 0 x1.Match.length]) (ks := [9003, 9004]) rfl rfl (by simp [hx1]) (by simp) (by decide) rfl) ?_
 refine .sub (S' := mk 80 [1000] [(0, .ptr 1000 0 0), (1, .i a1), (4, .ptr 25000 k2 0)] (H4 a0)) (by simp; exact Sub.table (by simp) (by simp)) ?_
 refine .nil ?_
 replace h := bsome h; obtain ⟨x5, hx5, h⟩ := h
 obtain ⟨hx5, hx5a, hx5b⟩ := idx_some2 hx5 hx1k
 refine .sub (.open 25000 k2 [9006, 9007] (e := cS68 x5) rfl rfl (by simp [hx5]) rfl (by simp) rfl) ?_
 refine .st (mk 80 [1000] [(0, .ptr 1000 0 0), (1, .i a1), (4, .ptr 25000 k2 0)] [(1000, some (.box [.ref 25000 0 a0.Servers.length, .ref 25001 0 a0.Leaders.length, .ref 25002 0 a0.Network.length])), (9006, R71 x5.Log), (9007, R3 x5.Match), (25000, some (.nest 68 4 [none, none, some (71, 2), some (3, 1)] (a0.Servers.map cS68) [(k2, [.i x5.Term, .i x5.Commit, .ref 9006 0 x5.Log.length, .ref 9007 0 x5.Match.length])])), (25001, R3 a0.Leaders), (25002, R47 a0.Network)]) ?_
 replace h := bsome h; obtain ⟨x8, hx8, h⟩ := h
 obtain ⟨hx8, hx8a, hx8b⟩ := idx_some2 hx8 hx1k
 replace h := lsome h; obtain ⟨l9, gl9, h⟩ := h
 obtain ⟨hl9, hl9n⟩ := setI_some (cI .i64) gl9 hx1k
 replace hl9 : (x5.Match.map (cI .i64)).set k2 [.lit (.int .i64 (x5.Log.length : Int))] = l9.map (cI .i64) := hl9
 clear gl9
 refine .seqAnyS [[], [0], [0, 1], [0, 1, 2], [], [], [5], [5, 6], [5, 6, 7], [5, 6, 7, 8], [0, 1, 2, 3, 4, 5, 6, 7, 8, 9], [0, 1, 2, 3, 4, 5, 6, 7, 8, 9, 10]] (fun (b : Nat → Bool) => mk 80 [1000] [(0, .ptr 1000 0 0), (1, .i a1), (4, .ptr 25000 k2 0), (15, (if b 0 then .ptr 25000 k2 0 else .junk)), (16, (if b 1 then .ptr 25000 k2 0 else .junk)), (17, (if b 2 then .ptr 25000 k2 3 else .junk)), (18, (if b 11 then .ref 9007 0 l9.length else (if b 3 then .ref 9007 0 x5.Match.length else .junk))), (19, (if b 4 then .i a1 else .junk)), (20, (if b 5 then .ptr 25000 k2 0 else .junk)), (21, (if b 6 then .ptr 25000 k2 0 else .junk)), (22, (if b 7 then .ptr 25000 k2 2 else .junk)), (23, (if b 8 then .ref 9006 0 x5.Log.length else .junk)), (24, (if b 9 then .i (x5.Log.length : Int) else .junk)), (25, (if b 10 then .ptr 9007 k2 0 else .junk))] [(1000, some (.box [.ref 25000 0 a0.Servers.length, .ref 25001 0 a0.Leaders.length, .ref 25002 0 a0.Network.length])), (9006, R71 x5.Log), (9007, (if b 11 then R3 l9 else R3 x5.Match)), (25000, (if b 11 then some (.nest 68 4 [none, none, some (71, 2), some (3, 1)] (a0.Servers.map cS68) [(k2, [.i x5.Term, .i x5.Commit, .ref 9006 0 x5.Log.length, .ref 9007 0 l9.length])]) else some (.nest 68 4 [none, none, some (71, 2), some (3, 1)] (a0.Servers.map cS68) [(k2, [.i x5.Term, .i x5.Commit, .ref 9006 0 x5.Log.length, .ref 9007 0 x5.Match.length])]))), (25001, R3 a0.Leaders), (25002, R47 a0.Network)]) (mk 80 [1000] [(0, .ptr 1000 0 0), (4, .ptr 25000 k2 0)] [(1000, some (.box [.ref 25000 0 a0.Servers.length, .ref 25001 0 a0.Leaders.length, .ref 25002 0 a0.Network.length])), (9006, R71 x5.Log), (9007, R3 l9), (25000, some (.nest 68 4 [none, none, some (71, 2), some (3, 1)] (a0.Servers.map cS68) [(k2, [.i x5.Term, .i x5.Commit, .ref 9006 0 x5.Log.length, .ref 9007 0 l9.length])])), (25001, R3 a0.Leaders), (25002, R47 a0.Network)]) (by kernel_rfl) (by kernel_rfl) Sub.tt (Steps.cons ?_ (Steps.cons ?_ (Steps.cons ?_ (Steps.cons ?_ (Steps.cons ?_ (Steps.cons ?_ (Steps.cons ?_ (Steps.cons ?_ (Steps.cons ?_ (Steps.cons ?_ (Steps.cons ?_ (Steps.cons ?_ (Steps.nil))))))))))))) ?_ ?_
 iterate 10
  ·intro b h0 ha hd
   have T := fct h0 ha hd; simp at T
   refine .runK [] 1 fun K k => ?_; simp [T]; refine k _ _ ?_; clear k K
   exact .nil (.table (by simp [T]) (by simp [T]))
 ·intro b h0 ha hd
  have T := fct h0 ha hd; simp at T
  refine .runK [] 1 fun K k => ?_; simp [T, hx1k, hx8a, hx8b]; refine k _ _ ?_; clear k K
  exact .nil (.table (by simp [T]) (by simp [T]))
 ·intro b h0 ha hd
  have T := fct h0 ha hd; simp at T
  refine .runK [] 1 fun K k => ?_; simp [T, hx8, hl9]; refine k _ _ ?_; clear k K
  exact .nil (.table (by simp [T, hl9n]) (by simp [hl9n]))
 ·intro b hb
  have t0 := hb 0 (by decide)
  have t1 := hb 1 (by decide)
  have t2 := hb 2 (by decide)
  have t3 := hb 3 (by decide)
  have t4 := hb 4 (by decide)
  have t5 := hb 5 (by decide)
  have t6 := hb 6 (by decide)
  have t7 := hb 7 (by decide)
  have t8 := hb 8 (by decide)
  have t9 := hb 9 (by decide)
  have t10 := hb 10 (by decide)
  have t11 := hb 11 (by decide)
  exact Sub.table (by simp [t0, t1, t2, t4, t5, t6, t7, t8, t9, t10, t11]) (by simp [t11])
 skip
 replace h := lsome h; obtain ⟨l10, gl10, h⟩ := h
 obtain ⟨hl10, hl10n⟩ := setI_some cS68 gl10 hx1k
 replace hl10 : (a0.Servers.map cS68).set k2 [.lit (.int .i64 x5.Term), .lit (.int .i64 x5.Commit), .sl (x5.Log.map cS64), .sl (l9.map (cI .i64))] = l10.map cS68 := hl10
 clear gl10
 refine .sub (show Go.Ab.Sub _ (mk 80 [1000] [(0, .ptr 1000 0 0), (4, .ptr 25000 k2 0)] (H9 l10 a0)) from (Sub.trans (Sub.close 25000 k2 (e := [.lit (.int .i64 x5.Term), .lit (.int .i64 x5.Commit), .sl (x5.Log.map cS64), .sl (l9.map (cI .i64))]) (cs := [.i x5.Term, .i x5.Commit, .ref 9006 0 x5.Log.length, .ref 9007 0 l9.length]) (ks := [9006, 9007]) rfl rfl (by simp) (by decide) rfl) (by simp [hl10]; exact Sub.table (by simp) (by simp [hl10n])))) ?_
 refine .seqR ?_
 refine .runK [] 3 fun K k => ?_; simp; refine k _ _ ?_; clear k K
 refine .tt [(0, .ptr 1000 0 0), (4, .ptr 25000 k2 0), (28, .ptr 25000 k2 2)] (H9 l10 a0) ?_
 replace h := bsome h; obtain ⟨x11, hx11, h⟩ := h
 obtain ⟨hx11, hx11a, hx11b⟩ := idx_some2 hx11 hx1k
 refine .sub (.open 25000 k2 [9012, 9013] (e := cS68 x11) rfl rfl (by simp [hx11]) rfl (by simp) rfl) ?_
 refine .st (mk 80 [1000] [(0, .ptr 1000 0 0), (4, .ptr 25000 k2 0), (28, .ptr 25000 k2 2)] [(1000, some (.box [.ref 25000 0 l10.length, .ref 25001 0 a0.Leaders.length, .ref 25002 0 a0.Network.length])), (9012, R71 x11.Log), (9013, R3 x11.Match), (25000, some (.nest 68 4 [none, none, some (71, 2), some (3, 1)] (l10.map cS68) [(k2, [.i x11.Term, .i x11.Commit, .ref 9012 0 x11.Log.length, .ref 9013 0 x11.Match.length])])), (25001, R3 a0.Leaders), (25002, R47 a0.Network)]) ?_
 refine .runK [] 3 fun K k => ?_; simp; refine k _ _ ?_; clear k K
 refine .tt [(0, .ptr 1000 0 0), (4, .ptr 25000 k2 0), (5, .i (x11.Log.length : Int))] [(1000, some (.box [.ref 25000 0 l10.length, .ref 25001 0 a0.Leaders.length, .ref 25002 0 a0.Network.length])), (9012, R71 x11.Log), (9013, R3 x11.Match), (25000, some (.nest 68 4 [none, none, some (71, 2), some (3, 1)] (l10.map cS68) [(k2, [.i x11.Term, .i x11.Commit, .ref 9012 0 x11.Log.length, .ref 9013 0 x11.Match.length])])), (25001, R3 a0.Leaders), (25002, R47 a0.Network)] ?_
 refine .sub (.closeSame 25000 k2 (e := cS68 x11) (cs := [.d (.lit (.int .i64 x11.Term)), .d (.lit (.int .i64 x11.Commit)), .ref 9012 0 x11.Log.length, .ref 9013 0 x11.Match.length]) (ks := [9012, 9013]) rfl rfl (by simp [hx11]) (by simp) (by decide) rfl) ?_
 refine .sub (S' := mk 80 [1000] [(0, .ptr 1000 0 0), (4, .ptr 25000 k2 0), (5, .i (x11.Log.length : Int))] (H9 l10 a0)) (by simp; exact Sub.table (by simp) (by simp)) ?_
 refine .nil ?_
 refine .lastJ (fun (_ : Unit) => mk 80 [1000] [] (H9 l10 a0)) h ?_ ?_ <;> clear h
 ·intro o h
  refine .block ?_
  refine .iter (fun (v67 : Int) => mk 80 [1000] [(0, .ptr 1000 0 0), (4, .ptr 25000 k2 0), (5, .i v67)] (H9 l10 a0)) h Sub.tt ?_
  clear h
  rintro v67 x h
  refine .seq ?_
  refine .seqR ?_
  refine .runK [] 4 fun K k => ?_; simp; refine k _ _ ?_; clear k K
  refine .tt (L6 k2 v67 ++ [(31, .i v67), (34, .ptr 25000 k2 1)]) (H9 l10 a0) ?_
  replace h := bsome h; obtain ⟨x175, hx175, h⟩ := h
  obtain ⟨hx175, hx175a, hx175b⟩ := idx_some2 hx175 hx1k
  refine .sub (.open 25000 k2 [9176, 9177] (e := cS68 x175) rfl rfl (by simp [hx175]) rfl (by simp) rfl) ?_
  refine .st (mk 80 [1000] (L6 k2 v67 ++ [(31, .i v67), (34, .ptr 25000 k2 1)]) [(1000, some (.box [.ref 25000 0 l10.length, .ref 25001 0 a0.Leaders.length, .ref 25002 0 a0.Network.length])), (9176, R71 x175.Log), (9177, R3 x175.Match), (25000, some (.nest 68 4 [none, none, some (71, 2), some (3, 1)] (l10.map cS68) [(k2, [.i x175.Term, .i x175.Commit, .ref 9176 0 x175.Log.length, .ref 9177 0 x175.Match.length])])), (25001, R3 a0.Leaders), (25002, R47 a0.Network)]) ?_
  refine .runK [] 2 fun K k => ?_; simp; refine k _ _ ?_; clear k K
  refine .tt (L6 k2 v67 ++ [(36, .b (decide (v67 > x175.Commit)))]) [(1000, some (.box [.ref 25000 0 l10.length, .ref 25001 0 a0.Leaders.length, .ref 25002 0 a0.Network.length])), (9176, R71 x175.Log), (9177, R3 x175.Match), (25000, some (.nest 68 4 [none, none, some (71, 2), some (3, 1)] (l10.map cS68) [(k2, [.i x175.Term, .i x175.Commit, .ref 9176 0 x175.Log.length, .ref 9177 0 x175.Match.length])])), (25001, R3 a0.Leaders), (25002, R47 a0.Network)] ?_
  refine .sub (.closeSame 25000 k2 (e := cS68 x175) (cs := [.d (.lit (.int .i64 x175.Term)), .d (.lit (.int .i64 x175.Commit)), .ref 9176 0 x175.Log.length, .ref 9177 0 x175.Match.length]) (ks := [9176, 9177]) rfl rfl (by simp [hx175]) (by simp) (by decide) rfl) ?_
  refine .sub (S' := mk 80 [1000] (L6 k2 v67 ++ [(36, .b (decide (v67 > x175.Commit)))]) (H9 l10 a0)) (by simp; exact Sub.table (by simp) (by simp)) ?_
  refine .nil ?_
  replace h := isome h; rcases h with ⟨c178, h⟩ | ⟨c178, h⟩
  ·have c178_ : decide (v67 > x175.Commit) = true := decide_eq_true c178
   refine .condT (b := decide (v67 > x175.Commit)) rfl c178_ ?_
   refine .sub (.bool 36 (b := decide (v67 > x175.Commit)) rfl c178_) ?_
   refine .st (mk 80 [1000] (L6 k2 v67 ++ [(36, .b true)]) (H9 l10 a0)) ?_
   refine .skip ?_
   refine thenQ_normal ?_
   refine .seq ?_
   refine .block ?_
   refine .seqR ?_
   refine .runK [] 1 fun K k => ?_; simp; refine k _ _ ?_; clear k K
   refine .tt (L7 k2 v67) (H9 l10 a0) ?_
   refine .nil ?_
   refine .seq ?_
   refine .seqR ?_
   refine .runK [] 3 fun K k => ?_; simp; refine k _ _ ?_; clear k K
   refine .tt (L7 k2 v67 ++ [(41, .ptr 25000 k2 3)]) (H9 l10 a0) ?_
   replace h := bsome h; obtain ⟨x179, hx179, h⟩ := h
   obtain ⟨hx179, hx179a, hx179b⟩ := idx_some2 hx179 hx1k
   refine .sub (.open 25000 k2 [9180, 9181] (e := cS68 x179) rfl rfl (by simp [hx179]) rfl (by simp) rfl) ?_
   refine .st (mk 80 [1000] (L7 k2 v67 ++ [(41, .ptr 25000 k2 3)]) [(1000, some (.box [.ref 25000 0 l10.length, .ref 25001 0 a0.Leaders.length, .ref 25002 0 a0.Network.length])), (9180, R71 x179.Log), (9181, R3 x179.Match), (25000, some (.nest 68 4 [none, none, some (71, 2), some (3, 1)] (l10.map cS68) [(k2, [.i x179.Term, .i x179.Commit, .ref 9180 0 x179.Log.length, .ref 9181 0 x179.Match.length])])), (25001, R3 a0.Leaders), (25002, R47 a0.Network)]) ?_
   refine .runK [] 3 fun K k => ?_; simp; refine k _ _ ?_; clear k K
   refine .tt (L7 k2 v67 ++ [(42, .ref 9181 0 x179.Match.length), (43, .i (x179.Match.length : Int)), (44, .i 0)]) [(1000, some (.box [.ref 25000 0 l10.length, .ref 25001 0 a0.Leaders.length, .ref 25002 0 a0.Network.length])), (9180, R71 x179.Log), (9181, R3 x179.Match), (25000, some (.nest 68 4 [none, none, some (71, 2), some (3, 1)] (l10.map cS68) [(k2, [.i x179.Term, .i x179.Commit, .ref 9180 0 x179.Log.length, .ref 9181 0 x179.Match.length])])), (25001, R3 a0.Leaders), (25002, R47 a0.Network)] ?_
   refine .nil ?_
   refine .lastN (fun (v206 : Int) => mk 80 [1000] (L6 k2 v67 ++ [(6, .i v206)]) [(1000, some (.box [.ref 25000 0 l10.length, .ref 25001 0 a0.Leaders.length, .ref 25002 0 a0.Network.length])), (9180, R71 x179.Log), (9181, R3 x179.Match), (25000, some (.nest 68 4 [none, none, some (71, 2), some (3, 1)] (l10.map cS68) [(k2, [.i x179.Term, .i x179.Commit, .ref 9180 0 x179.Log.length, .ref 9181 0 x179.Match.length])])), (25001, R3 a0.Leaders), (25002, R47 a0.Network)]) h ?_ ?_ <;> clear h
   ·intro o h
    refine .block ?_
    refine .iter (fun ((v188, v189) : (Int × Int)) => mk 80 [1000] (L8 k2 v67 v188 x179.Match.length v189) [(1000, some (.box [.ref 25000 0 l10.length, .ref 25001 0 a0.Leaders.length, .ref 25002 0 a0.Network.length])), (9180, R71 x179.Log), (9181, R3 x179.Match), (25000, some (.nest 68 4 [none, none, some (71, 2), some (3, 1)] (l10.map cS68) [(k2, [.i x179.Term, .i x179.Commit, .ref 9180 0 x179.Log.length, .ref 9181 0 x179.Match.length])])), (25001, R3 a0.Leaders), (25002, R47 a0.Network)]) h Sub.tt ?_
    clear h
    rintro ⟨v188, v189⟩ x h
    dsimp only at h ⊢
    refine .seqR ?_
    refine .runK [] 1 fun K k => ?_; simp; refine k _ _ ?_; clear k K
    refine .tt (L8 k2 v67 v188 x179.Match.length v189 ++ [(45, .b (decide (v189 < (x179.Match.length : Int))))]) [(1000, some (.box [.ref 25000 0 l10.length, .ref 25001 0 a0.Leaders.length, .ref 25002 0 a0.Network.length])), (9180, R71 x179.Log), (9181, R3 x179.Match), (25000, some (.nest 68 4 [none, none, some (71, 2), some (3, 1)] (l10.map cS68) [(k2, [.i x179.Term, .i x179.Commit, .ref 9180 0 x179.Log.length, .ref 9181 0 x179.Match.length])])), (25001, R3 a0.Leaders), (25002, R47 a0.Network)] ?_
    refine .nil ?_
    refine .seq ?_
    replace h := isome h; rcases h with ⟨c207, h⟩ | ⟨c207, h⟩
    ·have c207_ : decide (v189 < (x179.Match.length : Int)) = true := decide_eq_true c207
     refine .condT (b := decide (v189 < (x179.Match.length : Int))) rfl c207_ ?_
     refine .sub (.bool 45 (b := decide (v189 < (x179.Match.length : Int))) rfl c207_) ?_
     refine .st (mk 80 [1000] (L8 k2 v67 v188 x179.Match.length v189 ++ [(45, .b true)]) [(1000, some (.box [.ref 25000 0 l10.length, .ref 25001 0 a0.Leaders.length, .ref 25002 0 a0.Network.length])), (9180, R71 x179.Log), (9181, R3 x179.Match), (25000, some (.nest 68 4 [none, none, some (71, 2), some (3, 1)] (l10.map cS68) [(k2, [.i x179.Term, .i x179.Commit, .ref 9180 0 x179.Log.length, .ref 9181 0 x179.Match.length])])), (25001, R3 a0.Leaders), (25002, R47 a0.Network)]) ?_
     refine .skip ?_
     refine thenQ_normal ?_
     refine .seq ?_
     refine .block ?_
     refine .seqR ?_
     replace h := bsome h; obtain ⟨x208, hx208, h⟩ := h
     obtain ⟨k209, hx208k, hx208, hx208a, hx208b⟩ := idx_some hx208
     refine .runK [] 3 fun K k => ?_; simp [hx208, hx208k, hx208a, hx208b]; refine k _ _ ?_; clear k K
     refine .tt (L6 k2 v67 ++ [(6, .i v188), (8, .i x208), (42, .ref 9181 0 x179.Match.length), (43, .i (x179.Match.length : Int)), (44, .i v189)]) [(1000, some (.box [.ref 25000 0 l10.length, .ref 25001 0 a0.Leaders.length, .ref 25002 0 a0.Network.length])), (9180, R71 x179.Log), (9181, R3 x179.Match), (25000, some (.nest 68 4 [none, none, some (71, 2), some (3, 1)] (l10.map cS68) [(k2, [.i x179.Term, .i x179.Commit, .ref 9180 0 x179.Log.length, .ref 9181 0 x179.Match.length])])), (25001, R3 a0.Leaders), (25002, R47 a0.Network)] ?_
     refine .nil ?_
     refine .seqR ?_
     refine .runK [] 3 fun K k => ?_; simp; refine k _ _ ?_; clear k K
     refine .tt (L8 k2 v67 v188 x179.Match.length v189 ++ [(50, .b (decide (x208 ≥ v67)))]) [(1000, some (.box [.ref 25000 0 l10.length, .ref 25001 0 a0.Leaders.length, .ref 25002 0 a0.Network.length])), (9180, R71 x179.Log), (9181, R3 x179.Match), (25000, some (.nest 68 4 [none, none, some (71, 2), some (3, 1)] (l10.map cS68) [(k2, [.i x179.Term, .i x179.Commit, .ref 9180 0 x179.Log.length, .ref 9181 0 x179.Match.length])])), (25001, R3 a0.Leaders), (25002, R47 a0.Network)] ?_
     refine .nil ?_
     replace h := isome h; rcases h with ⟨c210, h⟩ | ⟨c210, h⟩
     ·have c210_ : decide (x208 ≥ v67) = true := decide_eq_true c210
      refine .condT (b := decide (x208 ≥ v67)) rfl c210_ ?_
      refine .sub (.bool 50 (b := decide (x208 ≥ v67)) rfl c210_) ?_
      refine .st (mk 80 [1000] (L8 k2 v67 v188 x179.Match.length v189 ++ [(50, .b true)]) [(1000, some (.box [.ref 25000 0 l10.length, .ref 25001 0 a0.Leaders.length, .ref 25002 0 a0.Network.length])), (9180, R71 x179.Log), (9181, R3 x179.Match), (25000, some (.nest 68 4 [none, none, some (71, 2), some (3, 1)] (l10.map cS68) [(k2, [.i x179.Term, .i x179.Commit, .ref 9180 0 x179.Log.length, .ref 9181 0 x179.Match.length])])), (25001, R3 a0.Leaders), (25002, R47 a0.Network)]) ?_
      refine .region ?_
      replace h := bsome h; obtain ⟨v211, hv211, h⟩ := h
      have hv211 := chkI_some hv211
      refine .runK [] 3 fun K k => ?_; simp [hv211]; refine k _ _ ?_; clear k K
      refine .tt (L8 k2 v67 v211 x179.Match.length v189) [(1000, some (.box [.ref 25000 0 l10.length, .ref 25001 0 a0.Leaders.length, .ref 25002 0 a0.Network.length])), (9180, R71 x179.Log), (9181, R3 x179.Match), (25000, some (.nest 68 4 [none, none, some (71, 2), some (3, 1)] (l10.map cS68) [(k2, [.i x179.Term, .i x179.Commit, .ref 9180 0 x179.Log.length, .ref 9181 0 x179.Match.length])])), (25001, R3 a0.Leaders), (25002, R47 a0.Network)] ?_
      refine .nil ?_
      refine blockQ.normal ?_
      refine thenQ_normal ?_
      refine .region ?_
      replace h := bsome h; obtain ⟨v212, hv212, h⟩ := h
      have hv212 := chkI_some hv212
      refine .runK [] 2 fun K k => ?_; simp [hv212]; refine k _ _ ?_; clear k K
      refine .tt (L8 k2 v67 v211 x179.Match.length v212) [(1000, some (.box [.ref 25000 0 l10.length, .ref 25001 0 a0.Leaders.length, .ref 25002 0 a0.Network.length])), (9180, R71 x179.Log), (9181, R3 x179.Match), (25000, some (.nest 68 4 [none, none, some (71, 2), some (3, 1)] (l10.map cS68) [(k2, [.i x179.Term, .i x179.Commit, .ref 9180 0 x179.Log.length, .ref 9181 0 x179.Match.length])])), (25001, R3 a0.Leaders), (25002, R47 a0.Network)] ?_
      refine .nil ?_
      cases h
      refine PostI.next ?_
      exact Sub.tt
     have c210_ : decide (x208 ≥ v67) = false := decide_eq_false c210
     refine .condF (b := decide (x208 ≥ v67)) rfl c210_ ?_
     refine .sub (.bool 50 (b := decide (x208 ≥ v67)) rfl c210_) ?_
     refine .st (mk 80 [1000] (L8 k2 v67 v188 x179.Match.length v189 ++ [(50, .b false)]) [(1000, some (.box [.ref 25000 0 l10.length, .ref 25001 0 a0.Leaders.length, .ref 25002 0 a0.Network.length])), (9180, R71 x179.Log), (9181, R3 x179.Match), (25000, some (.nest 68 4 [none, none, some (71, 2), some (3, 1)] (l10.map cS68) [(k2, [.i x179.Term, .i x179.Commit, .ref 9180 0 x179.Log.length, .ref 9181 0 x179.Match.length])])), (25001, R3 a0.Leaders), (25002, R47 a0.Network)]) ?_
     refine .skip ?_
     refine blockQ.normal ?_
     refine thenQ_normal ?_
     refine .region ?_
     replace h := bsome h; obtain ⟨v213, hv213, h⟩ := h
     have hv213 := chkI_some hv213
     refine .runK [] 2 fun K k => ?_; simp [hv213]; refine k _ _ ?_; clear k K
     refine .tt (L8 k2 v67 v188 x179.Match.length v213) [(1000, some (.box [.ref 25000 0 l10.length, .ref 25001 0 a0.Leaders.length, .ref 25002 0 a0.Network.length])), (9180, R71 x179.Log), (9181, R3 x179.Match), (25000, some (.nest 68 4 [none, none, some (71, 2), some (3, 1)] (l10.map cS68) [(k2, [.i x179.Term, .i x179.Commit, .ref 9180 0 x179.Log.length, .ref 9181 0 x179.Match.length])])), (25001, R3 a0.Leaders), (25002, R47 a0.Network)] ?_
     refine .nil ?_
     cases h
     refine PostI.next ?_
     exact Sub.tt
    have c207_ : decide (v189 < (x179.Match.length : Int)) = false := decide_eq_false c207
    refine .condF (b := decide (v189 < (x179.Match.length : Int))) rfl c207_ ?_
    refine .sub (.bool 45 (b := decide (v189 < (x179.Match.length : Int))) rfl c207_) ?_
    refine .st (mk 80 [1000] (L8 k2 v67 v188 x179.Match.length v189 ++ [(45, .b false)]) [(1000, some (.box [.ref 25000 0 l10.length, .ref 25001 0 a0.Leaders.length, .ref 25002 0 a0.Network.length])), (9180, R71 x179.Log), (9181, R3 x179.Match), (25000, some (.nest 68 4 [none, none, some (71, 2), some (3, 1)] (l10.map cS68) [(k2, [.i x179.Term, .i x179.Commit, .ref 9180 0 x179.Log.length, .ref 9181 0 x179.Match.length])])), (25001, R3 a0.Leaders), (25002, R47 a0.Network)]) ?_
    refine .exit ?_
    cases h
    refine thenQ_pass (by simp) ?_
    refine PostI.out (by simp) ?_
    rintro rfl
    refine blockQ.hit ?_
    refine PostN.next ?_
    exact Sub.tt
   rintro v206 h
   refine thenQ_normal ?_
   refine .seqR ?_
   replace h := bsome h; obtain ⟨v214, hv214, h⟩ := h
   have hv214 := chkI_some hv214
   refine .runK [] 8 fun K k => ?_; simp [hv214]; refine k _ _ ?_; clear k K
   refine .tt (L6 k2 v67 ++ [(61, .b (decide (v214 > (l10.length : Int))))]) [(1000, some (.box [.ref 25000 0 l10.length, .ref 25001 0 a0.Leaders.length, .ref 25002 0 a0.Network.length])), (9180, R71 x179.Log), (9181, R3 x179.Match), (25000, some (.nest 68 4 [none, none, some (71, 2), some (3, 1)] (l10.map cS68) [(k2, [.i x179.Term, .i x179.Commit, .ref 9180 0 x179.Log.length, .ref 9181 0 x179.Match.length])])), (25001, R3 a0.Leaders), (25002, R47 a0.Network)] ?_
   refine .sub (.closeSame 25000 k2 (e := cS68 x179) (cs := [.d (.lit (.int .i64 x179.Term)), .d (.lit (.int .i64 x179.Commit)), .ref 9180 0 x179.Log.length, .ref 9181 0 x179.Match.length]) (ks := [9180, 9181]) rfl rfl (by simp [hx179]) (by simp) (by decide) rfl) ?_
   refine .sub (S' := mk 80 [1000] (L6 k2 v67 ++ [(61, .b (decide (v214 > (l10.length : Int))))]) (H9 l10 a0)) (by simp; exact Sub.table (by simp) (by simp)) ?_
   refine .nil ?_
   replace h := isome h; rcases h with ⟨c215, h⟩ | ⟨c215, h⟩
   ·have c215_ : decide (v214 > (l10.length : Int)) = true := decide_eq_true c215
    refine .condT (b := decide (v214 > (l10.length : Int))) rfl c215_ ?_
    refine .sub (.bool 61 (b := decide (v214 > (l10.length : Int))) rfl c215_) ?_
    refine .st (mk 80 [1000] (L6 k2 v67 ++ [(61, .b true)]) (H9 l10 a0)) ?_
    refine .seq ?_
    refine .seqQ (by kernel_rfl) (by kernel_rfl) ?_
    refine .runQ 3 fun K k => ?_; simp; refine k _ _ ?_; clear k K
    refine .tt [(4, .ptr 25000 k2 0), (5, .i v67), (64, .ptr 25000 k2 2)] (H9 l10 a0) ?_
    replace h := bsome h; obtain ⟨x216, hx216, h⟩ := h
    obtain ⟨hx216, hx216a, hx216b⟩ := idx_some2 hx216 hx1k
    refine .sub (.open 25000 k2 [9217, 9218] (e := cS68 x216) rfl rfl (by simp [hx216]) rfl (by simp) rfl) ?_
    refine .st (mk 80 [1000] [(4, .ptr 25000 k2 0), (5, .i v67), (64, .ptr 25000 k2 2)] [(1000, some (.box [.ref 25000 0 l10.length, .ref 25001 0 a0.Leaders.length, .ref 25002 0 a0.Network.length])), (9217, R71 x216.Log), (9218, R3 x216.Match), (25000, some (.nest 68 4 [none, none, some (71, 2), some (3, 1)] (l10.map cS68) [(k2, [.i x216.Term, .i x216.Commit, .ref 9217 0 x216.Log.length, .ref 9218 0 x216.Match.length])])), (25001, R3 a0.Leaders), (25002, R47 a0.Network)]) ?_
    replace h := bsome h; obtain ⟨v219, hv219, h⟩ := h
    have hv219 := chkI_some hv219
    replace h := bsome h; obtain ⟨x220, hx220, h⟩ := h
    obtain ⟨k221, hx220k, hx220, hx220a, hx220b⟩ := idx_some hx220
    refine .runQ 11 fun K k => ?_; simp [hv219, hx220, hx220k, hx220a, hx220b]; refine k _ _ ?_; clear k K
    refine .tt [(4, .ptr 25000 k2 0), (5, .i v67), (75, .b (x220.Term == x216.Term))] [(1000, some (.box [.ref 25000 0 l10.length, .ref 25001 0 a0.Leaders.length, .ref 25002 0 a0.Network.length])), (9217, R71 x216.Log), (9218, R3 x216.Match), (25000, some (.nest 68 4 [none, none, some (71, 2), some (3, 1)] (l10.map cS68) [(k2, [.i x216.Term, .i x216.Commit, .ref 9217 0 x216.Log.length, .ref 9218 0 x216.Match.length])])), (25001, R3 a0.Leaders), (25002, R47 a0.Network)] ?_
    refine .sub (.closeSame 25000 k2 (e := cS68 x216) (cs := [.d (.lit (.int .i64 x216.Term)), .d (.lit (.int .i64 x216.Commit)), .ref 9217 0 x216.Log.length, .ref 9218 0 x216.Match.length]) (ks := [9217, 9218]) rfl rfl (by simp [hx216]) (by simp) (by decide) rfl) ?_
    refine .sub (S' := mk 80 [1000] [(4, .ptr 25000 k2 0), (5, .i v67), (75, .b (x220.Term == x216.Term))] (H9 l10 a0)) (by simp; exact Sub.table (by simp) (by simp)) ?_
    refine .nil ?_
    replace h := isome h; rcases h with ⟨c222, h⟩ | ⟨c222, h⟩
    ·have c222_ : (x220.Term == x216.Term) = true := c222
     refine .condT (b := (x220.Term == x216.Term)) rfl c222_ ?_
     refine .sub (.bool 75 (b := (x220.Term == x216.Term)) rfl c222_) ?_
     refine .st (mk 80 [1000] [(4, .ptr 25000 k2 0), (5, .i v67), (75, .b true)] (H9 l10 a0)) ?_
     refine .region ?_
     refine .runK [] 4 fun K k => ?_; simp; refine k _ _ ?_; clear k K
     refine .tt [(77, .i v67), (79, .ptr 25000 k2 1)] (H9 l10 a0) ?_
     replace h := bsome h; obtain ⟨x223, hx223, h⟩ := h
     obtain ⟨hx223, hx223a, hx223b⟩ := idx_some2 hx223 hx1k
     refine .sub (.open 25000 k2 [9224, 9225] (e := cS68 x223) rfl rfl (by simp [hx223]) rfl (by simp) rfl) ?_
     refine .st (mk 80 [1000] [(77, .i v67), (79, .ptr 25000 k2 1)] [(1000, some (.box [.ref 25000 0 l10.length, .ref 25001 0 a0.Leaders.length, .ref 25002 0 a0.Network.length])), (9224, R71 x223.Log), (9225, R3 x223.Match), (25000, some (.nest 68 4 [none, none, some (71, 2), some (3, 1)] (l10.map cS68) [(k2, [.i x223.Term, .i x223.Commit, .ref 9224 0 x223.Log.length, .ref 9225 0 x223.Match.length])])), (25001, R3 a0.Leaders), (25002, R47 a0.Network)]) ?_
     refine .runK [] 1 fun K k => ?_; simp; refine k _ _ ?_; clear k K
     refine .tt [] [(1000, some (.box [.ref 25000 0 l10.length, .ref 25001 0 a0.Leaders.length, .ref 25002 0 a0.Network.length])), (9224, R71 x223.Log), (9225, R3 x223.Match), (25000, some (.nest 68 4 [none, none, some (71, 2), some (3, 1)] (l10.map cS68) [(k2, [.i x223.Term, .i v67, .ref 9224 0 x223.Log.length, .ref 9225 0 x223.Match.length])])), (25001, R3 a0.Leaders), (25002, R47 a0.Network)] ?_
     replace h := lsome h; obtain ⟨l226, gl226, h⟩ := h
     obtain ⟨hl226, hl226n⟩ := setI_some cS68 gl226 hx1k
     replace hl226 : (l10.map cS68).set k2 [.lit (.int .i64 x223.Term), .lit (.int .i64 v67), .sl (x223.Log.map cS64), .sl (x223.Match.map (cI .i64))] = l226.map cS68 := hl226
     clear gl226
     refine .sub (.close 25000 k2 (e := [.lit (.int .i64 x223.Term), .lit (.int .i64 v67), .sl (x223.Log.map cS64), .sl (x223.Match.map (cI .i64))]) (cs := [.d (.lit (.int .i64 x223.Term)), .d (.lit (.int .i64 v67)), .ref 9224 0 x223.Log.length, .ref 9225 0 x223.Match.length]) (ks := [9224, 9225]) rfl rfl (by simp) (by decide) rfl) ?_
     refine .sub (S' := mk 80 [1000] [] (H9 l226 a0)) (by simp [hl226]; exact Sub.table (by simp) (by simp [hl226n])) ?_
     refine .nil ?_
     refine thenQ_normal ?_
     refine .ret ?_
     cases h
     refine blockQ.ret ?_
     refine thenQ_pass (by simp) ?_
     refine PostI.out (by simp) ?_
     rintro rfl
     refine blockQ.ret ?_
     refine PostJ.out (by simp) ?_
     rintro rfl
     exact FinF.ret (by simp) (by simp)
    have c222_ : (x220.Term == x216.Term) = false := Bool.eq_false_iff.2 c222
    refine .condF (b := (x220.Term == x216.Term)) rfl c222_ ?_
    refine .sub (.bool 75 (b := (x220.Term == x216.Term)) rfl c222_) ?_
    refine .st (mk 80 [1000] [(4, .ptr 25000 k2 0), (5, .i v67), (75, .b false)] (H9 l10 a0)) ?_
    refine .skip ?_
    refine thenQ_normal ?_
    refine .ret ?_
    cases h
    refine blockQ.ret ?_
    refine thenQ_pass (by simp) ?_
    refine PostI.out (by simp) ?_
    rintro rfl
    refine blockQ.ret ?_
    refine PostJ.out (by simp) ?_
    rintro rfl
    exact FinF.ret (by simp) (by simp)
   have c215_ : decide (v214 > (l10.length : Int)) = false := decide_eq_false c215
   refine .condF (b := decide (v214 > (l10.length : Int))) rfl c215_ ?_
   refine .sub (.bool 61 (b := decide (v214 > (l10.length : Int))) rfl c215_) ?_
   refine .st (mk 80 [1000] (L6 k2 v67 ++ [(61, .b false)]) (H9 l10 a0)) ?_
   refine .skip ?_
   refine blockQ.normal ?_
   refine thenQ_normal ?_
   refine .region ?_
   replace h := bsome h; obtain ⟨v227, hv227, h⟩ := h
   have hv227 := chkI_some hv227
   refine .runK [] 3 fun K k => ?_; simp [hv227]; refine k _ _ ?_; clear k K
   refine .tt [(0, .ptr 1000 0 0), (4, .ptr 25000 k2 0), (5, .i v227)] (H9 l10 a0) ?_
   refine .nil ?_
   cases h
   refine PostI.next ?_
   exact Sub.tt
  have c178_ : decide (v67 > x175.Commit) = false := decide_eq_false c178
  refine .condF (b := decide (v67 > x175.Commit)) rfl c178_ ?_
  refine .sub (.bool 36 (b := decide (v67 > x175.Commit)) rfl c178_) ?_
  refine .st (mk 80 [1000] (L6 k2 v67 ++ [(36, .b false)]) (H9 l10 a0)) ?_
  refine .exit ?_
  cases h
  refine thenQ_pass (by simp) ?_
  refine PostI.out (by simp) ?_
  rintro rfl
  refine blockQ.hit ?_
  refine PostJ.next ?_
  exact Sub.tt
 rintro ⟨⟩ h
 cases h
 exact FinF.normal (by simp) (by simp)
end Go.Proofs.Ytifcmomjjkbboab
