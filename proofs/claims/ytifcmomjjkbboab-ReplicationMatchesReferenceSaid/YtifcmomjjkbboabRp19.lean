/- Functions of the program as functional programs; the code computes them. -/
import Derived.Test.YtifcmomjjkbboabRp18
namespace Go.Proofs.Ytifcmomjjkbboab
open Go.Ab Go.Rp
attribute [-simp] List.all_eq_true Array.all_toList Array.all_eq_true

/-- stemma/stemlaw5.sameCluster -/
def d22 (N : Nat) (a0 : S59) (a1 : S44) : Option (S59 × S44 × Bool) :=
 bindO (β := Unit) (ρ := (S59 × S44 × Bool)) (
  iterN (σ := Int) (ρ := (Out Unit (S59 × S44 × Bool))) (fun (v38 : Int) =>
   if v38 ≤ (a1.Servers.length : Int) then (
    (d6 N a0 v38).bind fun r115 =>
    Option.bind (α := Bool) (
     if v38 < 0 then (
      some true
     ) else
     some (v38 == (a1.Servers.length : Int))
    ) fun (v117 : Bool) =>
    if v117 = true then (
     Option.bind (α := Bool) (
      if (r115.2.2 != 1) then (
       some true
      ) else
      if (r115.2.1 != 0) then (
       some true
      ) else
      some ((r115.1.length : Int) != 0)
     ) fun (v122 : Bool) =>
     if v122 = true then (
      some (.inr (.ret (a0, a1, false)))
     ) else
     (chkI (v38 + 1)).bind fun v126 =>
     some (.inl v126)
    ) else
    Option.bind (α := Bool) (
     if (r115.2.2 != 0) then (
      some true
     ) else
     (idx a1.Servers v38).bind fun x143 =>
     if (r115.2.1 != x143.Commit) then (
      some true
     ) else
     (d35 N r115.1 x143.Log).bind fun r148 =>
     some (!r148)
    ) fun (v141 : Bool) =>
    if v141 = true then (
     some (.inr (.ret (a0, a1, false)))
    ) else
    (chkI (v38 + 1)).bind fun v150 =>
    some (.inl v150)
   ) else
   some (.inr (.go ()))
  ) N (-1)
 ) fun (_ : Unit) =>
 (d36 N a0).bind fun r151 =>
 Option.bind (α := Bool) (
  (chkI ((a1.Leaders.length : Int) - 1)).bind fun v158 =>
  if (r151.2 != v158) then (
   some true
  ) else
  (chkI ((a1.Leaders.length : Int) - 1)).bind fun v160 =>
  (idx a1.Leaders v160).bind fun x161 =>
  some (r151.1 != x161)
 ) fun (v157 : Bool) =>
 if v157 = true then (
  some (a0, a1, false)
 ) else
 (d38 N a0).bind fun r164 =>
 (d37 N r164.2 a1.Network (fun b0 b1 => d39 N b0 b1 )).bind fun r165 =>
 some (r164.1, a1, r165)
set_option maxRecDepth 100000 in
set_option maxHeartbeats 4000000 in
theorem p22 (N : Nat) (a0 : S59) (a1 : S44) (r : (S59 × S44 × Bool)) (h : d22 N a0 a1 = some r) : FunM Try.prog 22 [.ptr 1000 0 0, .ptr 2000 0 0] [(1000, some (.box [.ref 25000 0 a0.servers.length, .ref 25001 0 a0.leaders.length, .ref 25002 0 a0.network.length])), (2000, some (.box [.ref 45000 0 a1.Servers.length, .ref 45001 0 a1.Leaders.length, .ref 45002 0 a1.Network.length])), (25000, some (.nest 61 4 [none, none, some (64, 2), some (3, 1)] (a0.servers.map cS61) [])), (25001, R3 a0.leaders), (25002, R73 a0.network), (45000, some (.nest 68 4 [none, none, some (71, 2), some (3, 1)] (a1.Servers.map cS68) [])), (45001, R3 a1.Leaders), (45002, R47 a1.Network)] [1000, 2000] (.b r.2.2) ([(1000, (.box [.ref 25000 0 r.1.servers.length, .ref 25001 0 r.1.leaders.length, .ref 25002 0 r.1.network.length])), (25000, (.nest 61 4 [none, none, some (64, 2), some (3, 1)] (r.1.servers.map cS61) [])), (25001, (.arr 3 1 (r.1.leaders.map (cI .i64)))), (25002, (.arr 73 8 (r.1.network.map cS73))), (2000, (.box [.ref 45000 0 r.2.1.Servers.length, .ref 45001 0 r.2.1.Leaders.length, .ref 45002 0 r.2.1.Network.length])), (45000, (.nest 68 4 [none, none, some (71, 2), some (3, 1)] (r.2.1.Servers.map cS68) [])), (45001, (.arr 3 1 (r.2.1.Leaders.map (cI .i64)))), (45002, (.arr 47 8 (r.2.1.Network.map cS73)))]) := by
 unfold d22 at h
 refine FunM.enter 112 [(0, .ptr 1000 0 0), (1, .ptr 2000 0 0)] Try.func22 rfl (of_decide_eq_true rfl) rfl rfl ?_
 refine .seqR ?_
 refine .runK [] 1 fun K k => ?_; simp; refine k _ _ ?_; clear k K
 refine .tt [(0, .ptr 1000 0 0), (1, .ptr 2000 0 0)] (H3 a0 a1) ?_
 refine .nil ?_
 refine .seq ?_
 refine .seqR ?_
 refine .runK [] 1 fun K k => ?_; simp; refine k _ _ ?_; clear k K
 refine .tt [(0, .ptr 1000 0 0), (1, .ptr 2000 0 0), (5, .i (-1))] (H3 a0 a1) ?_
 refine .nil ?_
 refine .lastJ (fun (_ : Unit) => mk 112 [1000, 2000] [(0, .ptr 1000 0 0), (1, .ptr 2000 0 0)] (H3 a0 a1)) h ?_ ?_ <;> clear h
 ·intro o h
  refine .block ?_
  refine .iter (fun (v38 : Int) => mk 112 [1000, 2000] [(0, .ptr 1000 0 0), (1, .ptr 2000 0 0), (5, .i v38)] (H3 a0 a1)) h Sub.tt ?_
  clear h
  rintro v38 x h
  refine .seq ?_
  refine .seqR ?_
  refine .runK [] 7 fun K k => ?_; simp; refine k _ _ ?_; clear k K
  refine .tt (L56 v38 ++ [(17, .b (decide (v38 ≤ (a1.Servers.length : Int))))]) (H3 a0 a1) ?_
  refine .nil ?_
  replace h := isome h; rcases h with ⟨c114, h⟩ | ⟨c114, h⟩
  ·have c114_ : decide (v38 ≤ (a1.Servers.length : Int)) = true := decide_eq_true c114
   refine .condT (b := decide (v38 ≤ (a1.Servers.length : Int))) rfl c114_ ?_
   refine .sub (.bool 17 (b := decide (v38 ≤ (a1.Servers.length : Int))) rfl c114_) ?_
   refine .st (mk 112 [1000, 2000] (L56 v38 ++ [(17, .b true)]) (H3 a0 a1)) ?_
   refine .skip ?_
   refine thenQ_normal ?_
   refine .seq ?_
   refine .block ?_
   refine .seqR ?_
   refine .runK [] 2 fun K k => ?_; simp; refine k _ _ ?_; clear k K
   refine .tt (L56 v38 ++ [(21, .ptr 1000 0 0), (22, .i v38)]) (H3 a0 a1) ?_
   replace h := bsome h; obtain ⟨r115, hr115, h⟩ := h
   refine .callFr (d := 23) (p6 N a0 v38 r115 hr115) (by simp) rfl rfl (by simp <;> rfl) (by simp <;> rfl) ent6 (by simp) ?_
   refine .st (mk 112 [1000, 2000] (L56 v38 ++ [(21, .ptr 1000 0 0), (22, .i v38), (23, .tup [.d (.sl (r115.1.map cS64)), .i r115.2.1, .i r115.2.2])]) (H3 a0 a1)) ?_
   refine .runK [] 7 fun K k => ?_; simp; refine k _ _ ?_; clear k K
   refine .tt (L57 v38 r115.1 r115.2.1 r115.2.2) (H3 a0 a1) ?_
   refine .nil ?_
   replace h := bsome h; obtain ⟨v117, hj, h⟩ := h
   refine .cutR (mk 112 [1000, 2000] (L57 v38 r115.1 r115.2.1 r115.2.2 ++ [(37, .b v117)]) (H3 a0 a1)) ?_ ?_
   ·clear h; have h := hj; clear hj
    refine .runK [] 3 fun K k => ?_; simp; refine k _ _ ?_; clear k K
    refine .tt (L57 v38 r115.1 r115.2.1 r115.2.2 ++ [(29, .b (decide (v38 < 0)))]) (H3 a0 a1) ?_
    replace h := isome h; rcases h with ⟨c118, h⟩ | ⟨c118, h⟩
    ·have c118_ : decide (v38 < 0) = true := decide_eq_true c118
     refine .sub (.bool 29 (b := decide (v38 < 0)) rfl c118_) ?_
     refine .st (mk 112 [1000, 2000] (L57 v38 r115.1 r115.2.1 r115.2.2 ++ [(29, .b true)]) (H3 a0 a1)) ?_
     refine .runK [] 8 fun K k => ?_; simp; refine k _ _ ?_; clear k K
     refine .tt (L57 v38 r115.1 r115.2.1 r115.2.2 ++ [(30, .tup []), (31, .tup []), (32, .tup []), (33, .tup []), (34, .tup []), (35, .tup []), (36, .tup []), (37, .b true)]) (H3 a0 a1) ?_
     cases h
     exact .nil .tt
    have c118_ : decide (v38 < 0) = false := decide_eq_false c118
    refine .sub (.bool 29 (b := decide (v38 < 0)) rfl c118_) ?_
    refine .st (mk 112 [1000, 2000] (L57 v38 r115.1 r115.2.1 r115.2.2 ++ [(29, .b false)]) (H3 a0 a1)) ?_
    refine .runK [] 8 fun K k => ?_; simp; refine k _ _ ?_; clear k K
    refine .tt (L57 v38 r115.1 r115.2.1 r115.2.2 ++ [(30, .i v38), (31, .ptr 2000 0 0), (32, .ptr 2000 0 0), (33, .ptr 2000 0 0), (34, .ref 45000 0 a1.Servers.length), (35, .i (a1.Servers.length : Int)), (36, .b (v38 == (a1.Servers.length : Int))), (37, .b (v38 == (a1.Servers.length : Int)))]) (H3 a0 a1) ?_
    cases h
    exact .nil .tt
   clear hj
   replace h := isome h; rcases h with ⟨c119, h⟩ | ⟨c119, h⟩
   ·have c119_ : v117 = true := c119
    refine .condT (b := v117) rfl c119_ ?_
    refine .sub (.bool 37 (b := v117) rfl c119_) ?_
    refine .st (mk 112 [1000, 2000] (L57 v38 r115.1 r115.2.1 r115.2.2 ++ [(37, .b true)]) (H3 a0 a1)) ?_
    replace h := bsome h; obtain ⟨v122, hj, h⟩ := h
    refine .cutR (mk 112 [1000, 2000] (L56 v38 ++ [(48, .b v122)]) (H3 a0 a1)) ?_ ?_
    ·clear h; have h := hj; clear hj
     refine .runK [] 3 fun K k => ?_; simp; refine k _ _ ?_; clear k K
     refine .tt (L58 v38 r115.1 r115.2.1 ++ [(40, .b (r115.2.2 != 1))]) (H3 a0 a1) ?_
     replace h := isome h; rcases h with ⟨c123, h⟩ | ⟨c123, h⟩
     ·have c123_ : (r115.2.2 != 1) = true := c123
      refine .sub (.bool 40 (b := (r115.2.2 != 1)) rfl c123_) ?_
      refine .st (mk 112 [1000, 2000] (L58 v38 r115.1 r115.2.1 ++ [(40, .b true)]) (H3 a0 a1)) ?_
      refine .runK [] 8 fun K k => ?_; simp; refine k _ _ ?_; clear k K
      refine .tt (L56 v38 ++ [(41, .tup []), (42, .tup []), (45, .tup []), (46, .tup []), (47, .tup []), (48, .b true)]) (H3 a0 a1) ?_
      cases h
      exact .nil .tt
     have c123_ : (r115.2.2 != 1) = false := Bool.eq_false_iff.2 c123
     refine .sub (.bool 40 (b := (r115.2.2 != 1)) rfl c123_) ?_
     refine .st (mk 112 [1000, 2000] (L58 v38 r115.1 r115.2.1 ++ [(40, .b false)]) (H3 a0 a1)) ?_
     refine .runK [] 4 fun K k => ?_; simp; refine k _ _ ?_; clear k K
     refine .tt (L59 v38 r115.1 r115.2.1 ++ [(42, .b (r115.2.1 != 0)), (44, .b (r115.2.1 != 0))]) (H3 a0 a1) ?_
     replace h := isome h; rcases h with ⟨c124, h⟩ | ⟨c124, h⟩
     ·have c124_ : (r115.2.1 != 0) = true := c124
      refine .sub (.bool 42 (b := (r115.2.1 != 0)) rfl c124_) ?_
      refine .sub (.bool 44 (b := (r115.2.1 != 0)) rfl c124_) ?_
      refine .st (mk 112 [1000, 2000] (L59 v38 r115.1 r115.2.1 ++ [(42, .b true), (44, .b true)]) (H3 a0 a1)) ?_
      refine .runK [] 4 fun K k => ?_; simp; refine k _ _ ?_; clear k K
      refine .tt (L56 v38 ++ [(41, .i r115.2.1), (42, .b true), (45, .tup []), (46, .tup []), (47, .tup []), (48, .b true)]) (H3 a0 a1) ?_
      cases h
      exact .nil .tt
     have c124_ : (r115.2.1 != 0) = false := Bool.eq_false_iff.2 c124
     refine .sub (.bool 42 (b := (r115.2.1 != 0)) rfl c124_) ?_
     refine .sub (.bool 44 (b := (r115.2.1 != 0)) rfl c124_) ?_
     refine .st (mk 112 [1000, 2000] (L59 v38 r115.1 r115.2.1 ++ [(42, .b false), (44, .b false)]) (H3 a0 a1)) ?_
     refine .runK [] 4 fun K k => ?_; simp; refine k _ _ ?_; clear k K
     refine .tt (L56 v38 ++ [(41, .i r115.2.1), (42, .b false), (45, .d (.sl (r115.1.map cS64))), (46, .i (r115.1.length : Int)), (47, .b ((r115.1.length : Int) != 0)), (48, .b ((r115.1.length : Int) != 0))]) (H3 a0 a1) ?_
     cases h
     exact .nil .tt
    clear hj
    replace h := isome h; rcases h with ⟨c125, h⟩ | ⟨c125, h⟩
    ·have c125_ : v122 = true := c125
     refine .condT (b := v122) rfl c125_ ?_
     refine .sub (.bool 48 (b := v122) rfl c125_) ?_
     refine .st (mk 112 [1000, 2000] (L56 v38 ++ [(48, .b true)]) (H3 a0 a1)) ?_
     refine .seqR ?_
     refine .runK [] 1 fun K k => ?_; simp; refine k _ _ ?_; clear k K
     refine .tt [(4, .b false)] (H3 a0 a1) ?_
     refine .nil ?_
     refine .ret ?_
     cases h
     refine blockQ.ret ?_
     refine thenQ_pass (by simp) ?_
     refine PostI.out (by simp) ?_
     rintro rfl
     refine blockQ.ret ?_
     refine PostJ.out (by simp) ?_
     rintro rfl
     refine thenQ_pass (by simp) ?_
     exact FinF.ret (by simp) (by simp)
    have c125_ : v122 = false := Bool.eq_false_iff.2 c125
    refine .condF (b := v122) rfl c125_ ?_
    refine .sub (.bool 48 (b := v122) rfl c125_) ?_
    refine .st (mk 112 [1000, 2000] (L56 v38 ++ [(48, .b false)]) (H3 a0 a1)) ?_
    refine .skip ?_
    refine blockQ.normal ?_
    refine thenQ_normal ?_
    refine .region ?_
    replace h := bsome h; obtain ⟨v126, hv126, h⟩ := h
    have hv126 := chkI_some hv126
    refine .runK [] 3 fun K k => ?_; simp [hv126]; refine k _ _ ?_; clear k K
    refine .tt [(0, .ptr 1000 0 0), (1, .ptr 2000 0 0), (5, .i v126)] (H3 a0 a1) ?_
    refine .nil ?_
    cases h
    refine PostI.next ?_
    exact Sub.tt
   have c119_ : v117 = false := Bool.eq_false_iff.2 c119
   refine .condF (b := v117) rfl c119_ ?_
   refine .sub (.bool 37 (b := v117) rfl c119_) ?_
   refine .st (mk 112 [1000, 2000] (L57 v38 r115.1 r115.2.1 r115.2.2 ++ [(37, .b false)]) (H3 a0 a1)) ?_
   replace h := bsome h; obtain ⟨v141, hj, h⟩ := h
   refine .cutR (mk 112 [1000, 2000] (L56 v38 ++ [(75, .b v141)]) (H3 a0 a1)) ?_ ?_
   ·clear h; have h := hj; clear hj
    refine .runK [] 3 fun K k => ?_; simp; refine k _ _ ?_; clear k K
    refine .tt (L58 v38 r115.1 r115.2.1 ++ [(51, .b (r115.2.2 != 0))]) (H3 a0 a1) ?_
    replace h := isome h; rcases h with ⟨c142, h⟩ | ⟨c142, h⟩
    ·have c142_ : (r115.2.2 != 0) = true := c142
     refine .sub (.bool 51 (b := (r115.2.2 != 0)) rfl c142_) ?_
     refine .st (mk 112 [1000, 2000] (L58 v38 r115.1 r115.2.1 ++ [(51, .b true)]) (H3 a0 a1)) ?_
     refine .runK [] 24 fun K k => ?_; simp; refine k _ _ ?_; clear k K
     refine .tt (L56 v38 ++ [(52, .tup []), (53, .tup []), (54, .tup []), (55, .tup []), (56, .tup []), (57, .tup []), (58, .tup []), (59, .tup []), (60, .tup []), (61, .tup []), (64, .tup []), (65, .tup []), (66, .tup []), (67, .tup []), (68, .tup []), (69, .tup []), (70, .tup []), (71, .tup []), (72, .tup []), (73, .tup []), (74, .tup []), (75, .b true)]) (H3 a0 a1) ?_
     cases h
     exact .nil .tt
    have c142_ : (r115.2.2 != 0) = false := Bool.eq_false_iff.2 c142
    refine .sub (.bool 51 (b := (r115.2.2 != 0)) rfl c142_) ?_
    refine .st (mk 112 [1000, 2000] (L58 v38 r115.1 r115.2.1 ++ [(51, .b false)]) (H3 a0 a1)) ?_
    refine .runK [] 6 fun K k => ?_; simp; refine k _ _ ?_; clear k K
    refine .tt (L56 v38 ++ [(6, .d (.sl (r115.1.map cS64))), (51, .b false), (52, .i r115.2.1), (53, .ptr 2000 0 0), (54, .ptr 2000 0 0), (55, .ptr 2000 0 0), (56, .ref 45000 0 a1.Servers.length), (57, .i v38)]) (H3 a0 a1) ?_
    replace h := bsome h; obtain ⟨x143, hx143, h⟩ := h
    obtain ⟨k144, hx143k, hx143, hx143a, hx143b⟩ := idx_some hx143
    refine .sub (.open 45000 k144 [9145, 9146] (e := cS68 x143) rfl rfl (by simp [hx143]) rfl (by simp) rfl) ?_
    refine .st (mk 112 [1000, 2000] (L56 v38 ++ [(6, .d (.sl (r115.1.map cS64))), (51, .b false), (52, .i r115.2.1), (53, .ptr 2000 0 0), (54, .ptr 2000 0 0), (55, .ptr 2000 0 0), (56, .ref 45000 0 a1.Servers.length), (57, .i v38)]) [(1000, some (.box [.ref 25000 0 a0.servers.length, .ref 25001 0 a0.leaders.length, .ref 25002 0 a0.network.length])), (2000, some (.box [.ref 45000 0 a1.Servers.length, .ref 45001 0 a1.Leaders.length, .ref 45002 0 a1.Network.length])), (9145, R71 x143.Log), (9146, R3 x143.Match), (25000, some (.nest 61 4 [none, none, some (64, 2), some (3, 1)] (a0.servers.map cS61) [])), (25001, R3 a0.leaders), (25002, R73 a0.network), (45000, some (.nest 68 4 [none, none, some (71, 2), some (3, 1)] (a1.Servers.map cS68) [(k144, [.i x143.Term, .i x143.Commit, .ref 9145 0 x143.Log.length, .ref 9146 0 x143.Match.length])])), (45001, R3 a1.Leaders), (45002, R47 a1.Network)]) ?_
    refine .runK [] 6 fun K k => ?_; simp [hx143k, hx143a, hx143b]; refine k _ _ ?_; clear k K
    refine .tt (L60 v38 r115.1 r115.2.1 a1.Servers.length k144 x143.Commit ++ [(61, .b (r115.2.1 != x143.Commit)), (63, .b (r115.2.1 != x143.Commit))]) [(1000, some (.box [.ref 25000 0 a0.servers.length, .ref 25001 0 a0.leaders.length, .ref 25002 0 a0.network.length])), (2000, some (.box [.ref 45000 0 a1.Servers.length, .ref 45001 0 a1.Leaders.length, .ref 45002 0 a1.Network.length])), (9145, R71 x143.Log), (9146, R3 x143.Match), (25000, some (.nest 61 4 [none, none, some (64, 2), some (3, 1)] (a0.servers.map cS61) [])), (25001, R3 a0.leaders), (25002, R73 a0.network), (45000, some (.nest 68 4 [none, none, some (71, 2), some (3, 1)] (a1.Servers.map cS68) [(k144, [.i x143.Term, .i x143.Commit, .ref 9145 0 x143.Log.length, .ref 9146 0 x143.Match.length])])), (45001, R3 a1.Leaders), (45002, R47 a1.Network)] ?_
    replace h := isome h; rcases h with ⟨c147, h⟩ | ⟨c147, h⟩
    ·have c147_ : (r115.2.1 != x143.Commit) = true := c147
     refine .sub (.bool 61 (b := (r115.2.1 != x143.Commit)) rfl c147_) ?_
     refine .sub (.bool 63 (b := (r115.2.1 != x143.Commit)) rfl c147_) ?_
     refine .st (mk 112 [1000, 2000] (L60 v38 r115.1 r115.2.1 a1.Servers.length k144 x143.Commit ++ [(61, .b true), (63, .b true)]) [(1000, some (.box [.ref 25000 0 a0.servers.length, .ref 25001 0 a0.leaders.length, .ref 25002 0 a0.network.length])), (2000, some (.box [.ref 45000 0 a1.Servers.length, .ref 45001 0 a1.Leaders.length, .ref 45002 0 a1.Network.length])), (9145, R71 x143.Log), (9146, R3 x143.Match), (25000, some (.nest 61 4 [none, none, some (64, 2), some (3, 1)] (a0.servers.map cS61) [])), (25001, R3 a0.leaders), (25002, R73 a0.network), (45000, some (.nest 68 4 [none, none, some (71, 2), some (3, 1)] (a1.Servers.map cS68) [(k144, [.i x143.Term, .i x143.Commit, .ref 9145 0 x143.Log.length, .ref 9146 0 x143.Match.length])])), (45001, R3 a1.Leaders), (45002, R47 a1.Network)]) ?_
     refine .runK [] 12 fun K k => ?_; simp; refine k _ _ ?_; clear k K
     refine .tt (L61 v38 r115.2.1 a1.Servers.length k144 x143.Commit ++ [(61, .b true), (64, .tup []), (65, .tup []), (66, .tup []), (67, .tup []), (68, .tup []), (69, .tup []), (70, .tup []), (71, .tup []), (72, .tup []), (73, .tup []), (74, .tup []), (75, .b true)]) [(1000, some (.box [.ref 25000 0 a0.servers.length, .ref 25001 0 a0.leaders.length, .ref 25002 0 a0.network.length])), (2000, some (.box [.ref 45000 0 a1.Servers.length, .ref 45001 0 a1.Leaders.length, .ref 45002 0 a1.Network.length])), (9145, R71 x143.Log), (9146, R3 x143.Match), (25000, some (.nest 61 4 [none, none, some (64, 2), some (3, 1)] (a0.servers.map cS61) [])), (25001, R3 a0.leaders), (25002, R73 a0.network), (45000, some (.nest 68 4 [none, none, some (71, 2), some (3, 1)] (a1.Servers.map cS68) [(k144, [.i x143.Term, .i x143.Commit, .ref 9145 0 x143.Log.length, .ref 9146 0 x143.Match.length])])), (45001, R3 a1.Leaders), (45002, R47 a1.Network)] ?_
     refine .sub (.closeSame 45000 k144 (e := cS68 x143) (cs := [.d (.lit (.int .i64 x143.Term)), .d (.lit (.int .i64 x143.Commit)), .ref 9145 0 x143.Log.length, .ref 9146 0 x143.Match.length]) (ks := [9145, 9146]) rfl rfl (by simp [hx143]) (by simp) (by decide) rfl) ?_
     refine .sub (S' := mk 112 [1000, 2000] (L61 v38 r115.2.1 a1.Servers.length k144 x143.Commit ++ [(61, .b true), (64, .tup []), (65, .tup []), (66, .tup []), (67, .tup []), (68, .tup []), (69, .tup []), (70, .tup []), (71, .tup []), (72, .tup []), (73, .tup []), (74, .tup []), (75, .b true)]) (H3 a0 a1)) (by simp; exact Sub.table (by simp) (by simp)) ?_
     cases h
     exact .nil .tt
    have c147_ : (r115.2.1 != x143.Commit) = false := Bool.eq_false_iff.2 c147
    refine .sub (.bool 61 (b := (r115.2.1 != x143.Commit)) rfl c147_) ?_
    refine .sub (.bool 63 (b := (r115.2.1 != x143.Commit)) rfl c147_) ?_
    refine .st (mk 112 [1000, 2000] (L60 v38 r115.1 r115.2.1 a1.Servers.length k144 x143.Commit ++ [(61, .b false), (63, .b false)]) [(1000, some (.box [.ref 25000 0 a0.servers.length, .ref 25001 0 a0.leaders.length, .ref 25002 0 a0.network.length])), (2000, some (.box [.ref 45000 0 a1.Servers.length, .ref 45001 0 a1.Leaders.length, .ref 45002 0 a1.Network.length])), (9145, R71 x143.Log), (9146, R3 x143.Match), (25000, some (.nest 61 4 [none, none, some (64, 2), some (3, 1)] (a0.servers.map cS61) [])), (25001, R3 a0.leaders), (25002, R73 a0.network), (45000, some (.nest 68 4 [none, none, some (71, 2), some (3, 1)] (a1.Servers.map cS68) [(k144, [.i x143.Term, .i x143.Commit, .ref 9145 0 x143.Log.length, .ref 9146 0 x143.Match.length])])), (45001, R3 a1.Leaders), (45002, R47 a1.Network)]) ?_
    refine .runK [] 9 fun K k => ?_; simp [hx143k, hx143a, hx143b]; refine k _ _ ?_; clear k K
    refine .tt (L62 v38 r115.2.1 a1.Servers.length k144 x143.Commit ++ [(63, .b false), (64, .d (.sl (r115.1.map cS64))), (65, .ptr 2000 0 0), (66, .ptr 2000 0 0), (67, .ptr 2000 0 0), (68, .ref 45000 0 a1.Servers.length), (69, .i v38), (70, .ptr 45000 k144 0), (71, .ptr 45000 k144 2), (72, .ref 9145 0 x143.Log.length)]) [(1000, some (.box [.ref 25000 0 a0.servers.length, .ref 25001 0 a0.leaders.length, .ref 25002 0 a0.network.length])), (2000, some (.box [.ref 45000 0 a1.Servers.length, .ref 45001 0 a1.Leaders.length, .ref 45002 0 a1.Network.length])), (9145, R71 x143.Log), (9146, R3 x143.Match), (25000, some (.nest 61 4 [none, none, some (64, 2), some (3, 1)] (a0.servers.map cS61) [])), (25001, R3 a0.leaders), (25002, R73 a0.network), (45000, some (.nest 68 4 [none, none, some (71, 2), some (3, 1)] (a1.Servers.map cS68) [(k144, [.i x143.Term, .i x143.Commit, .ref 9145 0 x143.Log.length, .ref 9146 0 x143.Match.length])])), (45001, R3 a1.Leaders), (45002, R47 a1.Network)] ?_
    replace h := bsome h; obtain ⟨r148, hr148, h⟩ := h
    refine .callL (d := 73) (p35 N r115.1 x143.Log r148 hr148) (by simp) rfl rfl (by simp <;> rfl) (by simp <;> rfl) ent35 (by simp <;> rfl) ?_
    refine .st (mk 112 [1000, 2000] (L62 v38 r115.2.1 a1.Servers.length k144 x143.Commit ++ [(63, .b false), (64, .d (.sl (r115.1.map cS64))), (65, .ptr 2000 0 0), (66, .ptr 2000 0 0), (67, .ptr 2000 0 0), (68, .ref 45000 0 a1.Servers.length), (69, .i v38), (70, .ptr 45000 k144 0), (71, .ptr 45000 k144 2), (72, .ref 9145 0 x143.Log.length), (73, .b r148)]) [(1000, some (.box [.ref 25000 0 a0.servers.length, .ref 25001 0 a0.leaders.length, .ref 25002 0 a0.network.length])), (2000, some (.box [.ref 45000 0 a1.Servers.length, .ref 45001 0 a1.Leaders.length, .ref 45002 0 a1.Network.length])), (9145, R71 x143.Log), (9146, R3 x143.Match), (25000, some (.nest 61 4 [none, none, some (64, 2), some (3, 1)] (a0.servers.map cS61) [])), (25001, R3 a0.leaders), (25002, R73 a0.network), (45000, some (.nest 68 4 [none, none, some (71, 2), some (3, 1)] (a1.Servers.map cS68) [(k144, [.i x143.Term, .i x143.Commit, .ref 9145 0 x143.Log.length, .ref 9146 0 x143.Match.length])])), (45001, R3 a1.Leaders), (45002, R47 a1.Network)]) ?_
    refine .runK [] 2 fun K k => ?_; simp; refine k _ _ ?_; clear k K
    refine .tt (L62 v38 r115.2.1 a1.Servers.length k144 x143.Commit ++ [(64, .d (.sl (r115.1.map cS64))), (65, .ptr 2000 0 0), (66, .ptr 2000 0 0), (67, .ptr 2000 0 0), (68, .ref 45000 0 a1.Servers.length), (69, .i v38), (70, .ptr 45000 k144 0), (71, .ptr 45000 k144 2), (72, .ref 9145 0 x143.Log.length), (73, .b r148), (74, .b (!r148)), (75, .b (!r148))]) [(1000, some (.box [.ref 25000 0 a0.servers.length, .ref 25001 0 a0.leaders.length, .ref 25002 0 a0.network.length])), (2000, some (.box [.ref 45000 0 a1.Servers.length, .ref 45001 0 a1.Leaders.length, .ref 45002 0 a1.Network.length])), (9145, R71 x143.Log), (9146, R3 x143.Match), (25000, some (.nest 61 4 [none, none, some (64, 2), some (3, 1)] (a0.servers.map cS61) [])), (25001, R3 a0.leaders), (25002, R73 a0.network), (45000, some (.nest 68 4 [none, none, some (71, 2), some (3, 1)] (a1.Servers.map cS68) [(k144, [.i x143.Term, .i x143.Commit, .ref 9145 0 x143.Log.length, .ref 9146 0 x143.Match.length])])), (45001, R3 a1.Leaders), (45002, R47 a1.Network)] ?_
    refine .sub (.closeSame 45000 k144 (e := cS68 x143) (cs := [.d (.lit (.int .i64 x143.Term)), .d (.lit (.int .i64 x143.Commit)), .ref 9145 0 x143.Log.length, .ref 9146 0 x143.Match.length]) (ks := [9145, 9146]) rfl rfl (by simp [hx143]) (by simp) (by decide) rfl) ?_
    refine .sub (S' := mk 112 [1000, 2000] (L62 v38 r115.2.1 a1.Servers.length k144 x143.Commit ++ [(64, .d (.sl (r115.1.map cS64))), (65, .ptr 2000 0 0), (66, .ptr 2000 0 0), (67, .ptr 2000 0 0), (68, .ref 45000 0 a1.Servers.length), (69, .i v38), (70, .ptr 45000 k144 0), (71, .ptr 45000 k144 2), (73, .b r148), (74, .b (!r148)), (75, .b (!r148))]) (H3 a0 a1)) (by simp; exact Sub.table (by simp) (by simp)) ?_
    cases h
    exact .nil .tt
   clear hj
   replace h := isome h; rcases h with ⟨c149, h⟩ | ⟨c149, h⟩
   ·have c149_ : v141 = true := c149
    refine .condT (b := v141) rfl c149_ ?_
    refine .sub (.bool 75 (b := v141) rfl c149_) ?_
    refine .st (mk 112 [1000, 2000] (L56 v38 ++ [(75, .b true)]) (H3 a0 a1)) ?_
    refine .seqR ?_
    refine .runK [] 1 fun K k => ?_; simp; refine k _ _ ?_; clear k K
    refine .tt [(4, .b false)] (H3 a0 a1) ?_
    refine .nil ?_
    refine .ret ?_
    cases h
    refine blockQ.ret ?_
    refine thenQ_pass (by simp) ?_
    refine PostI.out (by simp) ?_
    rintro rfl
    refine blockQ.ret ?_
    refine PostJ.out (by simp) ?_
    rintro rfl
    refine thenQ_pass (by simp) ?_
    exact FinF.ret (by simp) (by simp)
   have c149_ : v141 = false := Bool.eq_false_iff.2 c149
   refine .condF (b := v141) rfl c149_ ?_
   refine .sub (.bool 75 (b := v141) rfl c149_) ?_
   refine .st (mk 112 [1000, 2000] (L56 v38 ++ [(75, .b false)]) (H3 a0 a1)) ?_
   refine .skip ?_
   refine blockQ.normal ?_
   refine thenQ_normal ?_
   refine .region ?_
   replace h := bsome h; obtain ⟨v150, hv150, h⟩ := h
   have hv150 := chkI_some hv150
   refine .runK [] 3 fun K k => ?_; simp [hv150]; refine k _ _ ?_; clear k K
   refine .tt [(0, .ptr 1000 0 0), (1, .ptr 2000 0 0), (5, .i v150)] (H3 a0 a1) ?_
   refine .nil ?_
   cases h
   refine PostI.next ?_
   exact Sub.tt
  have c114_ : decide (v38 ≤ (a1.Servers.length : Int)) = false := decide_eq_false c114
  refine .condF (b := decide (v38 ≤ (a1.Servers.length : Int))) rfl c114_ ?_
  refine .sub (.bool 17 (b := decide (v38 ≤ (a1.Servers.length : Int))) rfl c114_) ?_
  refine .st (mk 112 [1000, 2000] (L56 v38 ++ [(17, .b false)]) (H3 a0 a1)) ?_
  refine .exit ?_
  cases h
  refine thenQ_pass (by simp) ?_
  refine PostI.out (by simp) ?_
  rintro rfl
  refine blockQ.hit ?_
  refine PostJ.next ?_
  exact Sub.tt
 rintro ⟨⟩ h
 refine thenQ_normal ?_
 refine .seqR ?_
 refine .runK [] 1 fun K k => ?_; simp; refine k _ _ ?_; clear k K
 refine .tt [(0, .ptr 1000 0 0), (1, .ptr 2000 0 0), (77, .ptr 1000 0 0)] (H3 a0 a1) ?_
 replace h := bsome h; obtain ⟨r151, hr151, h⟩ := h
 refine .callL (d := 78) (p36 N a0 r151 hr151) (by simp) rfl rfl (by simp <;> rfl) (by simp <;> rfl) ent36 (by simp <;> rfl) ?_
 refine .st (mk 112 [1000, 2000] [(0, .ptr 1000 0 0), (1, .ptr 2000 0 0), (77, .ptr 1000 0 0), (78, .tup [.i r151.1, .i r151.2])] (H3 a0 a1)) ?_
 refine .runK [] 5 fun K k => ?_; simp; refine k _ _ ?_; clear k K
 refine .tt [(0, .ptr 1000 0 0), (1, .ptr 2000 0 0), (9, .i r151.1), (10, .i r151.2)] (H3 a0 a1) ?_
 refine .nil ?_
 refine .seq ?_
 replace h := bsome h; obtain ⟨v157, hj, h⟩ := h
 refine .cutQ (by kernel_rfl) (by kernel_rfl) (mk 112 [1000, 2000] [(0, .ptr 1000 0 0), (1, .ptr 2000 0 0), (104, .b v157)] (H3 a0 a1)) ?_ ?_
 ·clear h; have h := hj; clear hj
  replace h := bsome h; obtain ⟨v158, hv158, h⟩ := h
  have hv158 := chkI_some hv158
  refine .runQ 9 fun K k => ?_; simp [hv158]; refine k _ _ ?_; clear k K
  refine .tt [(0, .ptr 1000 0 0), (1, .ptr 2000 0 0), (9, .i r151.1), (89, .b (r151.2 != v158))] (H3 a0 a1) ?_
  replace h := isome h; rcases h with ⟨c159, h⟩ | ⟨c159, h⟩
  ·have c159_ : (r151.2 != v158) = true := c159
   refine .sub (.bool 89 (b := (r151.2 != v158)) rfl c159_) ?_
   refine .st (mk 112 [1000, 2000] [(0, .ptr 1000 0 0), (1, .ptr 2000 0 0), (9, .i r151.1), (89, .b true)] (H3 a0 a1)) ?_
   refine .runQ 15 fun K k => ?_; simp; refine k _ _ ?_; clear k K
   refine .tt [(0, .ptr 1000 0 0), (1, .ptr 2000 0 0), (104, .b true)] (H3 a0 a1) ?_
   cases h
   exact .nil .tt
  have c159_ : (r151.2 != v158) = false := Bool.eq_false_iff.2 c159
  refine .sub (.bool 89 (b := (r151.2 != v158)) rfl c159_) ?_
  refine .st (mk 112 [1000, 2000] [(0, .ptr 1000 0 0), (1, .ptr 2000 0 0), (9, .i r151.1), (89, .b false)] (H3 a0 a1)) ?_
  replace h := bsome h; obtain ⟨v160, hv160, h⟩ := h
  have hv160 := chkI_some hv160
  replace h := bsome h; obtain ⟨x161, hx161, h⟩ := h
  obtain ⟨k162, hx161k, hx161, hx161a, hx161b⟩ := idx_some hx161
  refine .runQ 15 fun K k => ?_; simp [hv160, hx161, hx161k, hx161a, hx161b]; refine k _ _ ?_; clear k K
  refine .tt [(0, .ptr 1000 0 0), (1, .ptr 2000 0 0), (104, .b (r151.1 != x161))] (H3 a0 a1) ?_
  cases h
  exact .nil .tt
 clear hj
 replace h := isome h; rcases h with ⟨c163, h⟩ | ⟨c163, h⟩
 ·have c163_ : v157 = true := c163
  refine .condT (b := v157) rfl c163_ ?_
  refine .sub (.bool 104 (b := v157) rfl c163_) ?_
  refine .st (mk 112 [1000, 2000] [(0, .ptr 1000 0 0), (1, .ptr 2000 0 0), (104, .b true)] (H3 a0 a1)) ?_
  refine .seqR ?_
  refine .runK [] 1 fun K k => ?_; simp; refine k _ _ ?_; clear k K
  refine .tt [(4, .b false)] (H3 a0 a1) ?_
  refine .nil ?_
  refine .ret ?_
  cases h
  refine thenQ_pass (by simp) ?_
  exact FinF.ret (by simp) (by simp)
 have c163_ : v157 = false := Bool.eq_false_iff.2 c163
 refine .condF (b := v157) rfl c163_ ?_
 refine .sub (.bool 104 (b := v157) rfl c163_) ?_
 refine .st (mk 112 [1000, 2000] [(0, .ptr 1000 0 0), (1, .ptr 2000 0 0), (104, .b false)] (H3 a0 a1)) ?_
 refine .skip ?_
 refine thenQ_normal ?_
 replace h := bsome h; obtain ⟨r164, hr164, h⟩ := h
 replace h := bsome h; obtain ⟨r165, hr165, h⟩ := h
 refine .seqAnyS [[], [0], [], [2], [2, 3], [2, 3, 4], [0, 1, 2, 3, 4, 5], [0, 1, 2, 3, 4, 5, 6]] (fun (b : Nat → Bool) => mk 112 [1000, 2000] [(0, .ptr 1000 0 0), (1, .ptr 2000 0 0), (4, (if b 7 then .b r165 else .junk)), (105, (if b 0 then .ptr 1000 0 0 else .junk)), (106, (if b 1 then .d (.sl (r164.2.map cS73)) else .junk)), (107, (if b 2 then .ptr 2000 0 0 else .junk)), (108, (if b 3 then .ptr 2000 0 0 else .junk)), (109, (if b 4 then .ptr 2000 0 2 else .junk)), (110, (if b 5 then .ref 45002 0 a1.Network.length else .junk)), (111, (if b 6 then .b r165 else .junk))] [(1000, (if b 1 then some (.box [.ref 25000 0 r164.1.servers.length, .ref 25001 0 r164.1.leaders.length, .ref 25002 0 r164.1.network.length]) else some (.box [.ref 25000 0 a0.servers.length, .ref 25001 0 a0.leaders.length, .ref 25002 0 a0.network.length]))), (2000, some (.box [.ref 45000 0 a1.Servers.length, .ref 45001 0 a1.Leaders.length, .ref 45002 0 a1.Network.length])), (25000, (if b 1 then some (.nest 61 4 [none, none, some (64, 2), some (3, 1)] (r164.1.servers.map cS61) []) else some (.nest 61 4 [none, none, some (64, 2), some (3, 1)] (a0.servers.map cS61) []))), (25001, (if b 1 then R3 r164.1.leaders else R3 a0.leaders)), (25002, (if b 1 then R73 r164.1.network else R73 a0.network)), (45000, some (.nest 68 4 [none, none, some (71, 2), some (3, 1)] (a1.Servers.map cS68) [])), (45001, R3 a1.Leaders), (45002, R47 a1.Network)]) (mk 112 [1000, 2000] [(4, .b r165)] (H3 r164.1 a1)) (by kernel_rfl) (by kernel_rfl) Sub.tt (Steps.cons ?_ (Steps.cons ?_ (Steps.cons ?_ (Steps.cons ?_ (Steps.cons ?_ (Steps.cons ?_ (Steps.cons ?_ (Steps.cons ?_ (Steps.nil))))))))) ?_ ?_
 ·intro b h0 ha hd
  have T := fct h0 ha hd; simp at T
  refine .runK [] 1 fun K k => ?_; simp [T]; refine k _ _ ?_; clear k K
  exact .nil (.table (by simp [T]) (by simp [T]))
 ·intro b h0 ha hd
  have T := fct h0 ha hd; simp at T
  simp only [T, if_true, if_false, Bool.false_eq_true]
  refine .callF (p38 N a0 r164 hr164) [(1000, 1000), (25000, 25000), (25001, 25001), (25002, 25002)] [1000] [(1000, 1000), (25000, 25000), (25001, 25001), (25002, 25002)] [(1000, (.box [.ref 25000 0 r164.1.servers.length, .ref 25001 0 r164.1.leaders.length, .ref 25002 0 r164.1.network.length])), (25000, (.nest 61 4 [none, none, some (64, 2), some (3, 1)] (r164.1.servers.map cS61) [])), (25001, (.arr 3 1 (r164.1.leaders.map (cI .i64)))), (25002, (.arr 73 8 (r164.1.network.map cS73)))] (.d (.sl (r164.2.map cS73))) (by simp) rfl (by simp <;> rfl) (by simp) (by simp) (by simp) (by simp) (by simp) ent38 (by simp) (by simp) (by simp) (by simp) (by simp) (by simp) ?_
  exact .nil (by simp [T]; exact Sub.table (by simp) (by simp))
 iterate 4
  ·intro b h0 ha hd
   have T := fct h0 ha hd; simp at T
   refine .runK [] 1 fun K k => ?_; simp [T]; refine k _ _ ?_; clear k K
   exact .nil (.table (by simp [T]) (by simp))
 ·intro b h0 ha hd
  have T := fct h0 ha hd; simp at T
  simp only [T, if_true, if_false, Bool.false_eq_true]
  refine .callL (d := 111) (FunC.argsF (args := [.d (.sl (r164.2.map cS73)), .d (.sl (a1.Network.map cS73)), .d (.lit (.func (.func 39) #[] #[]))]) (p37 N r164.2 a1.Network 39 [] (fun b0 b1 => d39 N b0 b1 ) ent39 (fun b0 b1 r h => p39 N b0 b1  r h) r165 hr165) (by simp [V.wf]) rfl) (by simp) rfl rfl (by simp <;> rfl) (by simp <;> rfl) ent37 (by simp <;> rfl) ?_
  exact .nil (by simp [T]; exact Sub.table (by simp) (by simp))
 ·intro b h0 ha hd
  have T := fct h0 ha hd; simp at T
  refine .runK [] 1 fun K k => ?_; simp [T]; refine k _ _ ?_; clear k K
  exact .nil (.table (by simp [T]) (by simp [T]))
 ·intro b hb
  have t0 := hb 0 (by decide)
  have t1 := hb 1 (by decide)
  have t2 := hb 2 (by decide)
  have t3 := hb 3 (by decide)
  have t4 := hb 4 (by decide)
  have t5 := hb 5 (by decide)
  have t6 := hb 6 (by decide)
  have t7 := hb 7 (by decide)
  exact Sub.table (by simp [t0, t1, t2, t3, t4, t5, t6, t7]) (by simp [t1])
 skip
 refine .ret ?_
 cases h
 exact FinF.ret (by simp) (by simp)
end Go.Proofs.Ytifcmomjjkbboab
