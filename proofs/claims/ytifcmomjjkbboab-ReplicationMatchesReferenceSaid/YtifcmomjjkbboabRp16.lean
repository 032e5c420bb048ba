/- Functions of the program as functional programs; the code computes them. -/
import Derived.Test.YtifcmomjjkbboabRp15
namespace Go.Proofs.Ytifcmomjjkbboab
open Go.Ab Go.Rp
attribute [-simp] List.all_eq_true Array.all_toList Array.all_eq_true

/-- (*stemma/stemref5.Cluster).Elect -/
noncomputable def d21 (N : Nat) (a0 : S44) (a1 : Int) (a2 : (List Int)) : Option (S44 × Int) :=
 (appW 8 ([a1] : List Int) a2).bind fun _l1 =>
 letv (([a1] : List Int) ++ a2) fun l2 =>
 bindO (β := List (Int × Bool)) (ρ := (S44 × Int)) (
  iterN (σ := ((List (Int × Bool)) × Int)) (ρ := (Out (List (Int × Bool)) (S44 × Int))) (fun ((m9, v10) : ((List (Int × Bool)) × Int)) =>
   if v10 < ((([a1] : List Int) ++ a2).length : Int) then (
    (idx l2 v10).bind fun x29 =>
    (chkI ((a0.Servers.length : Int) - 1)).bind fun v31 =>
    (d12 N x29 0 v31).bind fun r32 =>
    if (!r32) = true then (
     some (.inr (.ret (a0, 1)))
    ) else
    (chkI (v10 + 1)).bind fun v34 =>
    some (.inl ((mput m9 x29 true), v34))
   ) else
   some (.inr (.go m9))
  ) N ((mput ([] : List (Int × Bool)) a1 true), 0)
 ) fun (m27 : List (Int × Bool)) =>
 (chkI (2 * (m27.length : Int))).bind fun v35 =>
 if v35 ≤ (a0.Servers.length : Int) then (
  some (a0, 4)
 ) else
 bindO (β := Unit) (ρ := (S44 × Int)) (
  rangeM (κ := Int × Bool) (β := Unit) (ρ := (S44 × Int)) (fun (x37 : Int × Bool) => fun (_ : Unit) =>
   (idx a0.Servers x37.1).bind fun x50 =>
   (idx a0.Servers a1).bind fun x52 =>
   (d34 N x50.Log x52.Log).bind fun r54 =>
   if r54 = true then (
    some (.ret (a0, 21))
   ) else
   some (.go ())
  ) m27 ()
 ) fun (_ : Unit) =>
 if (a0.Leaders.length : Int) > 60 then (
  some (a0, 18)
 ) else
 (appW 8 a0.Leaders [a1]).bind fun _l57 =>
 bindO (β := List S68) (ρ := (S44 × Int)) (
  rangeM (κ := Int × Bool) (β := List S68) (ρ := (S44 × Int)) (fun (x58 : Int × Bool) => fun (l67 : List S68) =>
   (idx l67 x58.1).bind fun x79 =>
   (chkI (((a0.Leaders ++ [a1]).length : Int) - 1)).bind fun v83 =>
   letv (setI l67 x58.1 (S68.mk v83 x79.Commit x79.Log x79.Match)) fun l84 =>
   some (.go l84)
  ) m27 a0.Servers
 ) fun (l67 : List S68) =>
 (idx l67 a1).bind fun x86 =>
 (mkL 8 (l67.length : Int) (0 : Int)).bind fun l90 =>
 letv (setI l67 a1 (S68.mk x86.Term x86.Commit x86.Log l90)) fun l91 =>
 some ((S44.mk l91 (a0.Leaders ++ [a1]) a0.Network), 0)
set_option maxRecDepth 100000 in
set_option maxHeartbeats 4000000 in
theorem p21 (N : Nat) (a0 : S44) (a1 : Int) (a2 : (List Int)) (r : (S44 × Int)) (h : d21 N a0 a1 a2 = some r) : FunM Try.prog 21 [.ptr 1000 0 0, .i a1, .d (.sl (a2.map (cI .i64)))] [(1000, some (.box [.ref 25000 0 a0.Servers.length, .ref 25001 0 a0.Leaders.length, .ref 25002 0 a0.Network.length])), (25000, some (.nest 68 4 [none, none, some (71, 2), some (3, 1)] (a0.Servers.map cS68) [])), (25001, R3 a0.Leaders), (25002, R47 a0.Network)] [1000] (.i r.2) ([(1000, (.box [.ref 25000 0 r.1.Servers.length, .ref 25001 0 r.1.Leaders.length, .ref 25002 0 r.1.Network.length])), (25000, (.nest 68 4 [none, none, some (71, 2), some (3, 1)] (r.1.Servers.map cS68) [])), (25001, (.arr 3 1 (r.1.Leaders.map (cI .i64)))), (25002, (.arr 47 8 (r.1.Network.map cS73)))]) := by
 unfold d21 at h
 refine FunM.enter 116 [(0, .ptr 1000 0 0), (1, .i a1), (2, .d (.sl (a2.map (cI .i64))))] Try.func21 rfl (of_decide_eq_true rfl) rfl rfl ?_
 refine .seqR ?_
 refine .runK [] 1 fun K k => ?_; simp; refine k _ _ ?_; clear k K
 refine .tt (L40 a1 a2) (H4 a0) ?_
 refine .nil ?_
 refine .seqR ?_
 refine .mmake (.int .i64) (by simp) rfl rfl (by simp) ?_
 refine .sub (S' := mk 116 [1000] (L49 a1 a2) (H39 a0)) (by simp; exact Sub.table (by simp) (by simp [encM_nil])) ?_
 refine .runK [] 1 fun K k => ?_; simp; refine k _ _ ?_; clear k K
 refine .tt (L49 a1 a2 ++ [(13, .i a1)]) (H39 a0) ?_
 refine .msetE (vf := vB) ik_inj ([] : List (Int × Bool)) a1 true (by simp) (.inr rfl) ty81 rfl ty3 rfl rfl rfl rfl rfl rfl rfl ?_
 refine .st (mk 116 [1000] (L49 a1 a2 ++ [(13, .i a1)]) [(12, some (.mp (.int .i64) (encM MKey.ik vB (mput ([] : List (Int × Bool)) a1 true)))), (1000, some (.box [.ref 25000 0 a0.Servers.length, .ref 25001 0 a0.Leaders.length, .ref 25002 0 a0.Network.length])), (25000, some (.nest 68 4 [none, none, some (71, 2), some (3, 1)] (a0.Servers.map cS68) [])), (25001, R3 a0.Leaders), (25002, R47 a0.Network)]) ?_
 refine .runK [] 2 fun K k => ?_; simp; refine k _ _ ?_; clear k K
 refine .tt (L40 a1 a2 ++ [(7, .mref 12)]) [(12, some (.mp (.int .i64) (encM MKey.ik vB (mput ([] : List (Int × Bool)) a1 true)))), (1000, some (.box [.ref 25000 0 a0.Servers.length, .ref 25001 0 a0.Leaders.length, .ref 25002 0 a0.Network.length])), (25000, some (.nest 68 4 [none, none, some (71, 2), some (3, 1)] (a0.Servers.map cS68) [])), (25001, R3 a0.Leaders), (25002, R47 a0.Network)] ?_
 refine .nil ?_
 refine .seq ?_
 refine .seqR ?_
 refine .runK [] 3 fun K k => ?_; simp; refine k _ _ ?_; clear k K
 refine .tt (L50 a1 ++ [(16, .ref 16 0 (([a1] : List Int).length)), (17, .d (.sl (a2.map (cI .i64))))]) [(12, some (.mp (.int .i64) (encM MKey.ik vB (mput ([] : List (Int × Bool)) a1 true)))), (16, R3 ([a1] : List Int)), (1000, some (.box [.ref 25000 0 a0.Servers.length, .ref 25001 0 a0.Leaders.length, .ref 25002 0 a0.Network.length])), (25000, some (.nest 68 4 [none, none, some (71, 2), some (3, 1)] (a0.Servers.map cS68) [])), (25001, R3 a0.Leaders), (25002, R47 a0.Network)] ?_
 replace h := bsome h; obtain ⟨l1, hl1, h⟩ := h
 obtain ⟨⟨hl1a, hl1b⟩, hl1⟩ := appW_some hl1
 subst hl1
 refine Chain.appWide (id := 16) (d := 18) (es := ([a1] : List Int).map (cI .i64)) (ys := a2.map (cI .i64)) (te := ⟨_, 1, 8, _⟩) (by simp) rfl rfl rfl rfl ty34 rfl ty3 (by simp) rfl rfl (by simp) (by simp) (by simp) (by simp) (by decide) rfl (by rw [List.length_map, List.length_map]; exact hl1a) (by rw [List.length_map, List.length_map]; exact hl1b) ?_
 refine .sub (S' := mk 116 [1000] (L50 a1 ++ [(17, .d (.sl (a2.map (cI .i64)))), (18, .ref 16 0 ((([a1] : List Int) ++ a2).length))]) [(12, some (.mp (.int .i64) (encM MKey.ik vB (mput ([] : List (Int × Bool)) a1 true)))), (16, R3 (([a1] : List Int) ++ a2)), (1000, some (.box [.ref 25000 0 a0.Servers.length, .ref 25001 0 a0.Leaders.length, .ref 25002 0 a0.Network.length])), (25000, some (.nest 68 4 [none, none, some (71, 2), some (3, 1)] (a0.Servers.map cS68) [])), (25001, R3 a0.Leaders), (25002, R47 a0.Network)]) (by simp; exact Sub.table (by simp [Nat.add_comm 1]) (by simp)) ?_
 refine .runK [] 2 fun K k => ?_; simp; refine k _ _ ?_; clear k K
 refine .tt (L50 a1 ++ [(18, .ref 16 0 ((([a1] : List Int) ++ a2).length)), (19, .i ((([a1] : List Int) ++ a2).length : Int)), (20, .i 0)]) [(12, some (.mp (.int .i64) (encM MKey.ik vB (mput ([] : List (Int × Bool)) a1 true)))), (16, R3 (([a1] : List Int) ++ a2)), (1000, some (.box [.ref 25000 0 a0.Servers.length, .ref 25001 0 a0.Leaders.length, .ref 25002 0 a0.Network.length])), (25000, some (.nest 68 4 [none, none, some (71, 2), some (3, 1)] (a0.Servers.map cS68) [])), (25001, R3 a0.Leaders), (25002, R47 a0.Network)] ?_
 refine .nil ?_
 replace h := lsome h; obtain ⟨l2, hl2, h⟩ := h
 refine .sub (S' := mk 116 [1000] (L51 a1 l2.length ++ [(19, .i ((([a1] : List Int) ++ a2).length : Int)), (20, .i 0)]) [(12, some (.mp (.int .i64) (encM MKey.ik vB (mput ([] : List (Int × Bool)) a1 true)))), (16, R3 l2), (1000, some (.box [.ref 25000 0 a0.Servers.length, .ref 25001 0 a0.Leaders.length, .ref 25002 0 a0.Network.length])), (25000, some (.nest 68 4 [none, none, some (71, 2), some (3, 1)] (a0.Servers.map cS68) [])), (25001, R3 a0.Leaders), (25002, R47 a0.Network)]) (by subst hl2; exact Sub.table (by simp) (by simp)) ?_
 refine .lastJ (fun (m27 : List (Int × Bool)) => mk 116 [1000] [(0, .ptr 1000 0 0), (1, .i a1), (7, .mref 12)] [(12, some (.mp (.int .i64) (encM MKey.ik vB m27))), (1000, some (.box [.ref 25000 0 a0.Servers.length, .ref 25001 0 a0.Leaders.length, .ref 25002 0 a0.Network.length])), (25000, some (.nest 68 4 [none, none, some (71, 2), some (3, 1)] (a0.Servers.map cS68) [])), (25001, R3 a0.Leaders), (25002, R47 a0.Network)]) h ?_ ?_ <;> clear h
 ·intro o h
  refine .block ?_
  refine .iter (fun ((m9, v10) : ((List (Int × Bool)) × Int)) => mk 116 [1000] (L51 a1 l2.length ++ [(19, .i ((([a1] : List Int) ++ a2).length : Int)), (20, .i v10)]) [(12, some (.mp (.int .i64) (encM MKey.ik vB m9))), (16, R3 l2), (1000, some (.box [.ref 25000 0 a0.Servers.length, .ref 25001 0 a0.Leaders.length, .ref 25002 0 a0.Network.length])), (25000, some (.nest 68 4 [none, none, some (71, 2), some (3, 1)] (a0.Servers.map cS68) [])), (25001, R3 a0.Leaders), (25002, R47 a0.Network)]) h Sub.tt ?_
  clear h
  rintro ⟨m9, v10⟩ x h
  dsimp only at h ⊢
  refine .seqR ?_
  refine .runK [] 1 fun K k => ?_; simp; refine k _ _ ?_; clear k K
  refine .tt (L51 a1 l2.length ++ [(19, .i ((([a1] : List Int) ++ a2).length : Int)), (20, .i v10), (21, .b (decide (v10 < ((([a1] : List Int) ++ a2).length : Int))))]) [(12, some (.mp (.int .i64) (encM MKey.ik vB m9))), (16, R3 l2), (1000, some (.box [.ref 25000 0 a0.Servers.length, .ref 25001 0 a0.Leaders.length, .ref 25002 0 a0.Network.length])), (25000, some (.nest 68 4 [none, none, some (71, 2), some (3, 1)] (a0.Servers.map cS68) [])), (25001, R3 a0.Leaders), (25002, R47 a0.Network)] ?_
  refine .nil ?_
  refine .seq ?_
  replace h := isome h; rcases h with ⟨c28, h⟩ | ⟨c28, h⟩
  ·have c28_ : decide (v10 < ((([a1] : List Int) ++ a2).length : Int)) = true := decide_eq_true c28
   refine .condT (b := decide (v10 < ((([a1] : List Int) ++ a2).length : Int))) rfl c28_ ?_
   refine .sub (.bool 21 (b := decide (v10 < ((([a1] : List Int) ++ a2).length : Int))) rfl c28_) ?_
   refine .st (mk 116 [1000] (L51 a1 l2.length ++ [(19, .i ((([a1] : List Int) ++ a2).length : Int)), (20, .i v10), (21, .b true)]) [(12, some (.mp (.int .i64) (encM MKey.ik vB m9))), (16, R3 l2), (1000, some (.box [.ref 25000 0 a0.Servers.length, .ref 25001 0 a0.Leaders.length, .ref 25002 0 a0.Network.length])), (25000, some (.nest 68 4 [none, none, some (71, 2), some (3, 1)] (a0.Servers.map cS68) [])), (25001, R3 a0.Leaders), (25002, R47 a0.Network)]) ?_
   refine .skip ?_
   refine thenQ_normal ?_
   refine .seq ?_
   refine .block ?_
   refine .seqR ?_
   replace h := bsome h; obtain ⟨x29, hx29, h⟩ := h
   obtain ⟨k30, hx29k, hx29, hx29a, hx29b⟩ := idx_some hx29
   refine .runK [] 3 fun K k => ?_; simp [hx29, hx29k, hx29a, hx29b]; refine k _ _ ?_; clear k K
   refine .tt (L52 a1 x29 l2.length ++ [(19, .i ((([a1] : List Int) ++ a2).length : Int)), (20, .i v10)]) [(12, some (.mp (.int .i64) (encM MKey.ik vB m9))), (16, R3 l2), (1000, some (.box [.ref 25000 0 a0.Servers.length, .ref 25001 0 a0.Leaders.length, .ref 25002 0 a0.Network.length])), (25000, some (.nest 68 4 [none, none, some (71, 2), some (3, 1)] (a0.Servers.map cS68) [])), (25001, R3 a0.Leaders), (25002, R47 a0.Network)] ?_
   refine .nil ?_
   refine .seq ?_
   refine .seqR ?_
   replace h := bsome h; obtain ⟨v31, hv31, h⟩ := h
   have hv31 := chkI_some hv31
   refine .runK [] 7 fun K k => ?_; simp [hv31]; refine k _ _ ?_; clear k K
   refine .tt (L52 a1 x29 l2.length ++ [(19, .i ((([a1] : List Int) ++ a2).length : Int)), (20, .i v10), (24, .i x29), (30, .i v31)]) [(12, some (.mp (.int .i64) (encM MKey.ik vB m9))), (16, R3 l2), (1000, some (.box [.ref 25000 0 a0.Servers.length, .ref 25001 0 a0.Leaders.length, .ref 25002 0 a0.Network.length])), (25000, some (.nest 68 4 [none, none, some (71, 2), some (3, 1)] (a0.Servers.map cS68) [])), (25001, R3 a0.Leaders), (25002, R47 a0.Network)] ?_
   replace h := bsome h; obtain ⟨r32, hr32, h⟩ := h
   refine .callL (d := 31) (p12 N x29 0 v31 r32 hr32) (by simp) rfl rfl (by simp <;> rfl) (by simp <;> rfl) ent12 (by simp <;> rfl) ?_
   refine .st (mk 116 [1000] (L52 a1 x29 l2.length ++ [(19, .i ((([a1] : List Int) ++ a2).length : Int)), (20, .i v10), (24, .i x29), (30, .i v31), (31, .b r32)]) [(12, some (.mp (.int .i64) (encM MKey.ik vB m9))), (16, R3 l2), (1000, some (.box [.ref 25000 0 a0.Servers.length, .ref 25001 0 a0.Leaders.length, .ref 25002 0 a0.Network.length])), (25000, some (.nest 68 4 [none, none, some (71, 2), some (3, 1)] (a0.Servers.map cS68) [])), (25001, R3 a0.Leaders), (25002, R47 a0.Network)]) ?_
   refine .runK [] 1 fun K k => ?_; simp; refine k _ _ ?_; clear k K
   refine .tt (L52 a1 x29 l2.length ++ [(19, .i ((([a1] : List Int) ++ a2).length : Int)), (20, .i v10), (32, .b (!r32))]) [(12, some (.mp (.int .i64) (encM MKey.ik vB m9))), (16, R3 l2), (1000, some (.box [.ref 25000 0 a0.Servers.length, .ref 25001 0 a0.Leaders.length, .ref 25002 0 a0.Network.length])), (25000, some (.nest 68 4 [none, none, some (71, 2), some (3, 1)] (a0.Servers.map cS68) [])), (25001, R3 a0.Leaders), (25002, R47 a0.Network)] ?_
   refine .nil ?_
   replace h := isome h; rcases h with ⟨c33, h⟩ | ⟨c33, h⟩
   ·have c33_ : (!r32) = true := c33
    refine .condT (b := (!r32)) rfl c33_ ?_
    refine .sub (.bool 32 (b := (!r32)) rfl c33_) ?_
    refine .st (mk 116 [1000] (L52 a1 x29 l2.length ++ [(19, .i ((([a1] : List Int) ++ a2).length : Int)), (20, .i v10), (32, .b true)]) [(12, some (.mp (.int .i64) (encM MKey.ik vB m9))), (16, R3 l2), (1000, some (.box [.ref 25000 0 a0.Servers.length, .ref 25001 0 a0.Leaders.length, .ref 25002 0 a0.Network.length])), (25000, some (.nest 68 4 [none, none, some (71, 2), some (3, 1)] (a0.Servers.map cS68) [])), (25001, R3 a0.Leaders), (25002, R47 a0.Network)]) ?_
    refine .seqR ?_
    refine .runK [] 1 fun K k => ?_; simp; refine k _ _ ?_; clear k K
    refine .tt [(6, .i 1)] (H4 a0) ?_
    refine .nil ?_
    refine .ret ?_
    cases h
    refine thenQ_pass (by simp) ?_
    refine blockQ.ret ?_
    refine thenQ_pass (by simp) ?_
    refine PostI.out (by simp) ?_
    rintro rfl
    refine blockQ.ret ?_
    refine PostJ.out (by simp) ?_
    rintro rfl
    refine thenQ_pass (by simp) ?_
    exact FinF.ret (by simp) (by simp)
   have c33_ : (!r32) = false := Bool.eq_false_iff.2 c33
   refine .condF (b := (!r32)) rfl c33_ ?_
   refine .sub (.bool 32 (b := (!r32)) rfl c33_) ?_
   refine .st (mk 116 [1000] (L52 a1 x29 l2.length ++ [(19, .i ((([a1] : List Int) ++ a2).length : Int)), (20, .i v10), (32, .b false)]) [(12, some (.mp (.int .i64) (encM MKey.ik vB m9))), (16, R3 l2), (1000, some (.box [.ref 25000 0 a0.Servers.length, .ref 25001 0 a0.Leaders.length, .ref 25002 0 a0.Network.length])), (25000, some (.nest 68 4 [none, none, some (71, 2), some (3, 1)] (a0.Servers.map cS68) [])), (25001, R3 a0.Leaders), (25002, R47 a0.Network)]) ?_
   refine .skip ?_
   refine thenQ_normal ?_
   refine .region ?_
   refine .runK [] 2 fun K k => ?_; simp; refine k _ _ ?_; clear k K
   refine .tt (L51 a1 l2.length ++ [(19, .i ((([a1] : List Int) ++ a2).length : Int)), (20, .i v10), (33, .mref 12), (34, .i x29)]) [(12, some (.mp (.int .i64) (encM MKey.ik vB m9))), (16, R3 l2), (1000, some (.box [.ref 25000 0 a0.Servers.length, .ref 25001 0 a0.Leaders.length, .ref 25002 0 a0.Network.length])), (25000, some (.nest 68 4 [none, none, some (71, 2), some (3, 1)] (a0.Servers.map cS68) [])), (25001, R3 a0.Leaders), (25002, R47 a0.Network)] ?_
   refine .msetE (vf := vB) ik_inj m9 x29 true (by simp) (.inl rfl) ty81 rfl ty3 rfl rfl rfl rfl rfl rfl rfl ?_
   refine .st (mk 116 [1000] (L51 a1 l2.length ++ [(19, .i ((([a1] : List Int) ++ a2).length : Int)), (20, .i v10), (33, .mref 12), (34, .i x29)]) [(12, some (.mp (.int .i64) (encM MKey.ik vB (mput m9 x29 true)))), (16, R3 l2), (1000, some (.box [.ref 25000 0 a0.Servers.length, .ref 25001 0 a0.Leaders.length, .ref 25002 0 a0.Network.length])), (25000, some (.nest 68 4 [none, none, some (71, 2), some (3, 1)] (a0.Servers.map cS68) [])), (25001, R3 a0.Leaders), (25002, R47 a0.Network)]) ?_
   refine .nil ?_
   refine blockQ.normal ?_
   refine thenQ_normal ?_
   refine .region ?_
   replace h := bsome h; obtain ⟨v34, hv34, h⟩ := h
   have hv34 := chkI_some hv34
   refine .runK [] 2 fun K k => ?_; simp [hv34]; refine k _ _ ?_; clear k K
   refine .tt (L51 a1 l2.length ++ [(19, .i ((([a1] : List Int) ++ a2).length : Int)), (20, .i v34)]) [(12, some (.mp (.int .i64) (encM MKey.ik vB (mput m9 x29 true)))), (16, R3 l2), (1000, some (.box [.ref 25000 0 a0.Servers.length, .ref 25001 0 a0.Leaders.length, .ref 25002 0 a0.Network.length])), (25000, some (.nest 68 4 [none, none, some (71, 2), some (3, 1)] (a0.Servers.map cS68) [])), (25001, R3 a0.Leaders), (25002, R47 a0.Network)] ?_
   refine .nil ?_
   cases h
   refine PostI.next ?_
   exact Sub.tt
  have c28_ : decide (v10 < ((([a1] : List Int) ++ a2).length : Int)) = false := decide_eq_false c28
  refine .condF (b := decide (v10 < ((([a1] : List Int) ++ a2).length : Int))) rfl c28_ ?_
  refine .sub (.bool 21 (b := decide (v10 < ((([a1] : List Int) ++ a2).length : Int))) rfl c28_) ?_
  refine .st (mk 116 [1000] (L51 a1 l2.length ++ [(19, .i ((([a1] : List Int) ++ a2).length : Int)), (20, .i v10), (21, .b false)]) [(12, some (.mp (.int .i64) (encM MKey.ik vB m9))), (16, R3 l2), (1000, some (.box [.ref 25000 0 a0.Servers.length, .ref 25001 0 a0.Leaders.length, .ref 25002 0 a0.Network.length])), (25000, some (.nest 68 4 [none, none, some (71, 2), some (3, 1)] (a0.Servers.map cS68) [])), (25001, R3 a0.Leaders), (25002, R47 a0.Network)]) ?_
  refine .exit ?_
  cases h
  refine thenQ_pass (by simp) ?_
  refine PostI.out (by simp) ?_
  rintro rfl
  refine blockQ.hit ?_
  refine PostJ.next ?_
  exact Sub.tt
 rintro m27 h
 refine thenQ_normal ?_
 refine .seq ?_
 refine .seqQ (by kernel_rfl) (by kernel_rfl) ?_
 refine .runQ 1 fun K k => ?_; simp; refine k _ _ ?_; clear k K
 refine .tt (L50 a1 ++ [(36, .mref 12)]) [(12, some (.mp (.int .i64) (encM MKey.ik vB m27))), (1000, some (.box [.ref 25000 0 a0.Servers.length, .ref 25001 0 a0.Leaders.length, .ref 25002 0 a0.Network.length])), (25000, some (.nest 68 4 [none, none, some (71, 2), some (3, 1)] (a0.Servers.map cS68) [])), (25001, R3 a0.Leaders), (25002, R47 a0.Network)] ?_
 refine .pureP (by simp) (pure_lenM (id := 12) rfl rfl rfl ty81 rfl (by simp) rfl) ?_
 refine .st (mk 116 [1000] (L50 a1 ++ [(36, .mref 12), (37, .i (m27.length : Int))]) [(12, some (.mp (.int .i64) (encM MKey.ik vB m27))), (1000, some (.box [.ref 25000 0 a0.Servers.length, .ref 25001 0 a0.Leaders.length, .ref 25002 0 a0.Network.length])), (25000, some (.nest 68 4 [none, none, some (71, 2), some (3, 1)] (a0.Servers.map cS68) [])), (25001, R3 a0.Leaders), (25002, R47 a0.Network)]) ?_
 replace h := bsome h; obtain ⟨v35, hv35, h⟩ := h
 have hv35 := chkI_some hv35
 refine .runQ 7 fun K k => ?_; simp [hv35]; refine k _ _ ?_; clear k K
 refine .tt (L50 a1 ++ [(44, .b (decide (v35 ≤ (a0.Servers.length : Int))))]) [(12, some (.mp (.int .i64) (encM MKey.ik vB m27))), (1000, some (.box [.ref 25000 0 a0.Servers.length, .ref 25001 0 a0.Leaders.length, .ref 25002 0 a0.Network.length])), (25000, some (.nest 68 4 [none, none, some (71, 2), some (3, 1)] (a0.Servers.map cS68) [])), (25001, R3 a0.Leaders), (25002, R47 a0.Network)] ?_
 refine .nil ?_
 replace h := isome h; rcases h with ⟨c36, h⟩ | ⟨c36, h⟩
 ·have c36_ : decide (v35 ≤ (a0.Servers.length : Int)) = true := decide_eq_true c36
  refine .condT (b := decide (v35 ≤ (a0.Servers.length : Int))) rfl c36_ ?_
  refine .sub (.bool 44 (b := decide (v35 ≤ (a0.Servers.length : Int))) rfl c36_) ?_
  refine .st (mk 116 [1000] (L50 a1 ++ [(44, .b true)]) [(12, some (.mp (.int .i64) (encM MKey.ik vB m27))), (1000, some (.box [.ref 25000 0 a0.Servers.length, .ref 25001 0 a0.Leaders.length, .ref 25002 0 a0.Network.length])), (25000, some (.nest 68 4 [none, none, some (71, 2), some (3, 1)] (a0.Servers.map cS68) [])), (25001, R3 a0.Leaders), (25002, R47 a0.Network)]) ?_
  refine .seqR ?_
  refine .runK [] 1 fun K k => ?_; simp; refine k _ _ ?_; clear k K
  refine .tt [(6, .i 4)] (H4 a0) ?_
  refine .nil ?_
  refine .ret ?_
  cases h
  refine thenQ_pass (by simp) ?_
  exact FinF.ret (by simp) (by simp)
 have c36_ : decide (v35 ≤ (a0.Servers.length : Int)) = false := decide_eq_false c36
 refine .condF (b := decide (v35 ≤ (a0.Servers.length : Int))) rfl c36_ ?_
 refine .sub (.bool 44 (b := decide (v35 ≤ (a0.Servers.length : Int))) rfl c36_) ?_
 refine .st (mk 116 [1000] (L50 a1 ++ [(44, .b false)]) [(12, some (.mp (.int .i64) (encM MKey.ik vB m27))), (1000, some (.box [.ref 25000 0 a0.Servers.length, .ref 25001 0 a0.Leaders.length, .ref 25002 0 a0.Network.length])), (25000, some (.nest 68 4 [none, none, some (71, 2), some (3, 1)] (a0.Servers.map cS68) [])), (25001, R3 a0.Leaders), (25002, R47 a0.Network)]) ?_
 refine .skip ?_
 refine thenQ_normal ?_
 refine .sub (.freezeM 12 (ag := false) (cf := cB) m27 rfl (fun _ => rfl) (fun _ _ => rfl)) ?_
 refine .st (mk 116 [1000] [(0, .ptr 1000 0 0), (1, .i a1), (7, .d (.mpi (.int .i64) false (m27.map (MKey.ik ∘ Prod.fst)) (m27.map (cB ∘ Prod.snd)))), (44, .b false)] (H4 a0)) ?_
 refine .seqJ (fun (_ : Unit) => mk 116 [1000] [(0, .ptr 1000 0 0), (1, .i a1), (7, .d (.mpi (.int .i64) false (m27.map (MKey.ik ∘ Prod.fst)) (m27.map (cB ∘ Prod.snd))))] (H4 a0)) h ?_ ?_ <;> clear h
 ·intro o h
  refine .mapR 1 (mk 116 [1000] [(0, .ptr 1000 0 0), (1, .i a1), (7, .d (.mpi (.int .i64) false (m27.map (MKey.ik ∘ Prod.fst)) (m27.map (cB ∘ Prod.snd)))), (45, .d (.mpi (.int .i64) false (m27.map (MKey.ik ∘ Prod.fst)) (m27.map (cB ∘ Prod.snd))))] (H4 a0)) (fun (itr37 : Nat) (b : Unit) => mk 116 [1000] [(0, .ptr 1000 0 0), (1, .i a1), (7, .d (.mpi (.int .i64) false (m27.map (MKey.ik ∘ Prod.fst)) (m27.map (cB ∘ Prod.snd)))), (46, .d (.lit (itv itr37)))] (H4 a0)) _ rfl ?_ rfl rfl rfl rfl ty81 rfl rfl rfl rfl rfl rfl rfl rfl rfl rfl (by intro r b; exact ⟨(by show 47 < 116; decide), (by show 48 < 116; decide), by decide, by decide, by decide⟩) (by intro r b; exact ⟨rfl, rfl, rfl⟩) (by intro r; simp; exact Sub.table (by simp) (by simp)) (by rintro r ⟨⟩; exact Sub.table (by simp) (by simp)) h ?_
  ·simp only [List.take_succ_cons, List.take_zero]
   refine .runK [] 1 fun K k => ?_; simp; refine k _ _ ?_; clear k K
   refine .tt [(0, .ptr 1000 0 0), (1, .i a1), (7, .d (.mpi (.int .i64) false (m27.map (MKey.ik ∘ Prod.fst)) (m27.map (cB ∘ Prod.snd)))), (45, .d (.mpi (.int .i64) false (m27.map (MKey.ik ∘ Prod.fst)) (m27.map (cB ∘ Prod.snd))))] (H4 a0) ?_
   refine .nil (.refl _)
  clear h
  rintro itr37 x37 ⟨⟩ o' h
  try dsimp only at h ⊢
  refine .sub (S' := mk 116 [1000] [(0, .ptr 1000 0 0), (1, .i a1), (7, .d (.mpi (.int .i64) false (m27.map (MKey.ik ∘ Prod.fst)) (m27.map (cB ∘ Prod.snd)))), (46, .d (.lit (itv itr37))), (49, .tup [.i x37.1, .b x37.2])] (H4 a0)) (by simp [MKey.enc]; exact Sub.table (by simp) (by simp)) ?_
  refine .runK [] 2 fun K k => ?_; simp; refine k _ _ ?_; clear k K
  refine .tt [(0, .ptr 1000 0 0), (1, .i a1), (7, .d (.mpi (.int .i64) false (m27.map (MKey.ik ∘ Prod.fst)) (m27.map (cB ∘ Prod.snd)))), (10, .i x37.1), (46, .d (.lit (itv itr37)))] (H4 a0) ?_
  refine .nil ?_
  replace h := bsome h; obtain ⟨x50, hx50, h⟩ := h
  obtain ⟨k51, hx50k, hx50, hx50a, hx50b⟩ := idx_some hx50
  replace h := bsome h; obtain ⟨x52, hx52, h⟩ := h
  obtain ⟨k53, hx52k, hx52, hx52a, hx52b⟩ := idx_some hx52
  replace h := bsome h; obtain ⟨r54, hr54, h⟩ := h
  refine .seqQ (by kernel_rfl) (by kernel_rfl) ?_
  refine .viewQ (mk 116 [1000] [(0, .ptr 1000 0 0), (1, .i a1), (7, .d (.mpi (.int .i64) false (m27.map (MKey.ik ∘ Prod.fst)) (m27.map (cB ∘ Prod.snd)))), (10, .i x37.1), (46, .d (.lit (itv itr37)))] (H4 a0)) [(67, .b r54)] [51, 52, 53, 54, 55, 56, 57, 58, 59, 60, 61, 62, 63, 64, 65, 66, 67] (Sub.refl _) rfl (by simp [isLitV]) ?_ ?_
  ·refine .sub (.freezeN 25000 rfl rfl) ?_
   refine .st (mk 116 [1000] [(0, .ptr 1000 0 0), (1, .i a1), (7, .d (.mpi (.int .i64) false (m27.map (MKey.ik ∘ Prod.fst)) (m27.map (cB ∘ Prod.snd)))), (10, .i x37.1), (46, .d (.lit (itv itr37)))] (H35 a0)) ?_
   refine .runQ 16 fun K k => ?_; simp [hx50, hx50k, hx50a, hx52, hx52k, hx52a]; refine k _ _ ?_; clear k K
   refine .tt [(0, .ptr 1000 0 0), (1, .i a1), (7, .d (.mpi (.int .i64) false (m27.map (MKey.ik ∘ Prod.fst)) (m27.map (cB ∘ Prod.snd)))), (46, .d (.lit (itv itr37))), (58, .d (.sl (x50.Log.map cS64))), (66, .d (.sl (x52.Log.map cS64)))] (H35 a0) ?_
   refine .callL (d := 67) (p34 N x50.Log x52.Log r54 hr54) (by simp) rfl rfl (by simp <;> rfl) (by simp <;> rfl) ent34 (by simp <;> rfl) ?_
   refine .st (mk 116 [1000] [(0, .ptr 1000 0 0), (1, .i a1), (7, .d (.mpi (.int .i64) false (m27.map (MKey.ik ∘ Prod.fst)) (m27.map (cB ∘ Prod.snd)))), (46, .d (.lit (itv itr37))), (58, .d (.sl (x50.Log.map cS64))), (66, .d (.sl (x52.Log.map cS64))), (67, .b r54)] (H35 a0)) ?_
   refine .nil ?_
   simp
  skip
  refine .sub (show Go.Ab.Sub _ (mk 116 [1000] [(0, .ptr 1000 0 0), (1, .i a1), (7, .d (.mpi (.int .i64) false (m27.map (MKey.ik ∘ Prod.fst)) (m27.map (cB ∘ Prod.snd)))), (46, .d (.lit (itv itr37))), (67, .b r54)] (H4 a0)) from (by simp; exact Sub.tt)) ?_
  replace h := isome h; rcases h with ⟨c55, h⟩ | ⟨c55, h⟩
  ·have c55_ : r54 = true := c55
   refine .condT (b := r54) rfl c55_ ?_
   refine .sub (.bool 67 (b := r54) rfl c55_) ?_
   refine .st (mk 116 [1000] [(0, .ptr 1000 0 0), (1, .i a1), (7, .d (.mpi (.int .i64) false (m27.map (MKey.ik ∘ Prod.fst)) (m27.map (cB ∘ Prod.snd)))), (46, .d (.lit (itv itr37))), (67, .b true)] (H4 a0)) ?_
   refine .seqR ?_
   refine .runK [] 1 fun K k => ?_; simp; refine k _ _ ?_; clear k K
   refine .tt [(6, .i 21)] (H4 a0) ?_
   refine .nil ?_
   refine .ret ?_
   cases h
   refine blockQ.ret ?_
   refine ⟨rfl, ?_⟩
   rintro rfl
   exact FinF.ret (by simp) (by simp)
  have c55_ : r54 = false := Bool.eq_false_iff.2 c55
  refine .condF (b := r54) rfl c55_ ?_
  refine .sub (.bool 67 (b := r54) rfl c55_) ?_
  refine .st (mk 116 [1000] [(0, .ptr 1000 0 0), (1, .i a1), (7, .d (.mpi (.int .i64) false (m27.map (MKey.ik ∘ Prod.fst)) (m27.map (cB ∘ Prod.snd)))), (46, .d (.lit (itv itr37))), (67, .b false)] (H4 a0)) ?_
  refine .skip ?_
  cases h
  refine blockQ.normal ?_
  exact ⟨rfl, Sub.tt⟩
 rintro ⟨⟩ h
 refine .seq ?_
 refine .seqR ?_
 refine .runK [] 6 fun K k => ?_; simp; refine k _ _ ?_; clear k K
 refine .tt [(0, .ptr 1000 0 0), (1, .i a1), (7, .d (.mpi (.int .i64) false (m27.map (MKey.ik ∘ Prod.fst)) (m27.map (cB ∘ Prod.snd)))), (73, .b (decide ((a0.Leaders.length : Int) > 60)))] (H4 a0) ?_
 refine .nil ?_
 replace h := isome h; rcases h with ⟨c56, h⟩ | ⟨c56, h⟩
 ·have c56_ : decide ((a0.Leaders.length : Int) > 60) = true := decide_eq_true c56
  refine .condT (b := decide ((a0.Leaders.length : Int) > 60)) rfl c56_ ?_
  refine .sub (.bool 73 (b := decide ((a0.Leaders.length : Int) > 60)) rfl c56_) ?_
  refine .st (mk 116 [1000] [(0, .ptr 1000 0 0), (1, .i a1), (7, .d (.mpi (.int .i64) false (m27.map (MKey.ik ∘ Prod.fst)) (m27.map (cB ∘ Prod.snd)))), (73, .b true)] (H4 a0)) ?_
  refine .seqR ?_
  refine .runK [] 1 fun K k => ?_; simp; refine k _ _ ?_; clear k K
  refine .tt [(6, .i 18)] (H4 a0) ?_
  refine .nil ?_
  refine .ret ?_
  cases h
  refine thenQ_pass (by simp) ?_
  exact FinF.ret (by simp) (by simp)
 have c56_ : decide ((a0.Leaders.length : Int) > 60) = false := decide_eq_false c56
 refine .condF (b := decide ((a0.Leaders.length : Int) > 60)) rfl c56_ ?_
 refine .sub (.bool 73 (b := decide ((a0.Leaders.length : Int) > 60)) rfl c56_) ?_
 refine .st (mk 116 [1000] [(0, .ptr 1000 0 0), (1, .i a1), (7, .d (.mpi (.int .i64) false (m27.map (MKey.ik ∘ Prod.fst)) (m27.map (cB ∘ Prod.snd)))), (73, .b false)] (H4 a0)) ?_
 refine .skip ?_
 refine thenQ_normal ?_
 refine .seqR ?_
 refine .runK [80] 7 fun K k => ?_; simp; refine k _ _ ?_; clear k K
 refine .tt [(0, .ptr 1000 0 0), (1, .i a1), (7, .d (.mpi (.int .i64) false (m27.map (MKey.ik ∘ Prod.fst)) (m27.map (cB ∘ Prod.snd)))), (74, .ptr 1000 0 0), (78, .ref 25001 0 a0.Leaders.length), (80, .d (.sl ([a1].map (cI .i64))))] (H4 a0) ?_
 replace h := bsome h; obtain ⟨l57, hl57, h⟩ := h
 obtain ⟨⟨hl57a, hl57b⟩, hl57⟩ := appW_some hl57
 subst hl57
 refine Chain.appWide (id := 25001) (d := 81) (es := a0.Leaders.map (cI .i64)) (ys := [a1].map (cI .i64)) (te := ⟨_, 1, 8, _⟩) (by simp) rfl rfl rfl rfl ty34 rfl ty3 (by simp) rfl rfl (by simp) (by simp) (by simp) (by simp) (by decide) rfl (by rw [List.length_map, List.length_map]; exact hl57a) (by rw [List.length_map, List.length_map]; exact hl57b) ?_
 refine .st (mk 116 [1000] [(0, .ptr 1000 0 0), (1, .i a1), (7, .d (.mpi (.int .i64) false (m27.map (MKey.ik ∘ Prod.fst)) (m27.map (cB ∘ Prod.snd)))), (74, .ptr 1000 0 0), (80, .d (.sl ([a1].map (cI .i64)))), (81, .ref 25001 0 ((a0.Leaders ++ [a1]).length))] [(1000, some (.box [.ref 25000 0 a0.Servers.length, .hole, .ref 25002 0 a0.Network.length])), (25000, some (.nest 68 4 [none, none, some (71, 2), some (3, 1)] (a0.Servers.map cS68) [])), (25001, R3 (a0.Leaders ++ [a1])), (25002, R47 a0.Network)]) ?_
 refine .runK [80] 3 fun K k => ?_; simp; refine k _ _ ?_; clear k K
 refine .tt [(0, .ptr 1000 0 0), (1, .i a1), (7, .d (.mpi (.int .i64) false (m27.map (MKey.ik ∘ Prod.fst)) (m27.map (cB ∘ Prod.snd))))] [(1000, some (.box [.ref 25000 0 a0.Servers.length, .ref 25001 0 ((a0.Leaders ++ [a1]).length), .ref 25002 0 a0.Network.length])), (25000, some (.nest 68 4 [none, none, some (71, 2), some (3, 1)] (a0.Servers.map cS68) [])), (25001, R3 (a0.Leaders ++ [a1])), (25002, R47 a0.Network)] ?_
 refine .nil ?_
 refine .seqJ (fun (l67 : List S68) => mk 116 [1000] [(0, .ptr 1000 0 0), (1, .i a1)] [(1000, some (.box [.ref 25000 0 l67.length, .ref 25001 0 ((a0.Leaders ++ [a1]).length), .ref 25002 0 a0.Network.length])), (25000, some (.nest 68 4 [none, none, some (71, 2), some (3, 1)] (l67.map cS68) [])), (25001, R3 (a0.Leaders ++ [a1])), (25002, R47 a0.Network)]) h ?_ ?_ <;> clear h
 ·intro o h
  refine .mapR 1 (mk 116 [1000] [(0, .ptr 1000 0 0), (1, .i a1), (84, .d (.mpi (.int .i64) false (m27.map (MKey.ik ∘ Prod.fst)) (m27.map (cB ∘ Prod.snd))))] [(1000, some (.box [.ref 25000 0 a0.Servers.length, .ref 25001 0 ((a0.Leaders ++ [a1]).length), .ref 25002 0 a0.Network.length])), (25000, some (.nest 68 4 [none, none, some (71, 2), some (3, 1)] (a0.Servers.map cS68) [])), (25001, R3 (a0.Leaders ++ [a1])), (25002, R47 a0.Network)]) (fun (itr58 : Nat) (b : List S68) => mk 116 [1000] [(0, .ptr 1000 0 0), (1, .i a1), (85, .d (.lit (itv itr58)))] [(1000, some (.box [.ref 25000 0 b.length, .ref 25001 0 ((a0.Leaders ++ [a1]).length), .ref 25002 0 a0.Network.length])), (25000, some (.nest 68 4 [none, none, some (71, 2), some (3, 1)] (b.map cS68) [])), (25001, R3 (a0.Leaders ++ [a1])), (25002, R47 a0.Network)]) _ rfl ?_ rfl rfl rfl rfl ty81 rfl rfl rfl rfl rfl rfl rfl rfl rfl rfl (by intro r b; exact ⟨(by show 86 < 116; decide), (by show 87 < 116; decide), by decide, by decide, by decide⟩) (by intro r b; exact ⟨rfl, rfl, rfl⟩) (by intro r; simp; exact Sub.table (by simp) (by simp)) (by rintro r l67; exact Sub.table (by simp) (by simp)) h ?_
  ·simp only [List.take_succ_cons, List.take_zero]
   refine .runK [] 1 fun K k => ?_; simp; refine k _ _ ?_; clear k K
   refine .tt [(0, .ptr 1000 0 0), (1, .i a1), (84, .d (.mpi (.int .i64) false (m27.map (MKey.ik ∘ Prod.fst)) (m27.map (cB ∘ Prod.snd))))] [(1000, some (.box [.ref 25000 0 a0.Servers.length, .ref 25001 0 ((a0.Leaders ++ [a1]).length), .ref 25002 0 a0.Network.length])), (25000, some (.nest 68 4 [none, none, some (71, 2), some (3, 1)] (a0.Servers.map cS68) [])), (25001, R3 (a0.Leaders ++ [a1])), (25002, R47 a0.Network)] ?_
   refine .nil (.refl _)
  clear h
  rintro itr58 x58 l67 o' h
  try dsimp only at h ⊢
  refine .sub (S' := mk 116 [1000] [(0, .ptr 1000 0 0), (1, .i a1), (85, .d (.lit (itv itr58))), (88, .tup [.i x58.1, .b x58.2])] [(1000, some (.box [.ref 25000 0 l67.length, .ref 25001 0 ((a0.Leaders ++ [a1]).length), .ref 25002 0 a0.Network.length])), (25000, some (.nest 68 4 [none, none, some (71, 2), some (3, 1)] (l67.map cS68) [])), (25001, R3 (a0.Leaders ++ [a1])), (25002, R47 a0.Network)]) (by simp [MKey.enc]; exact Sub.table (by simp) (by simp)) ?_
  refine .runK [] 2 fun K k => ?_; simp; refine k _ _ ?_; clear k K
  refine .tt [(0, .ptr 1000 0 0), (1, .i a1), (11, .i x58.1), (85, .d (.lit (itv itr58)))] [(1000, some (.box [.ref 25000 0 l67.length, .ref 25001 0 ((a0.Leaders ++ [a1]).length), .ref 25002 0 a0.Network.length])), (25000, some (.nest 68 4 [none, none, some (71, 2), some (3, 1)] (l67.map cS68) [])), (25001, R3 (a0.Leaders ++ [a1])), (25002, R47 a0.Network)] ?_
  refine .nil ?_
  replace h := bsome h; obtain ⟨x79, hx79, h⟩ := h
  obtain ⟨k80, hx79k, hx79, hx79a, hx79b⟩ := idx_some hx79
  refine .sub (.open 25000 k80 [9081, 9082] (e := cS68 x79) rfl rfl (by simp [hx79]) rfl (by simp) rfl) ?_
  refine .st (mk 116 [1000] [(0, .ptr 1000 0 0), (1, .i a1), (11, .i x58.1), (85, .d (.lit (itv itr58)))] [(1000, some (.box [.ref 25000 0 l67.length, .ref 25001 0 ((a0.Leaders ++ [a1]).length), .ref 25002 0 a0.Network.length])), (9081, R71 x79.Log), (9082, R3 x79.Match), (25000, some (.nest 68 4 [none, none, some (71, 2), some (3, 1)] (l67.map cS68) [(k80, [.i x79.Term, .i x79.Commit, .ref 9081 0 x79.Log.length, .ref 9082 0 x79.Match.length])])), (25001, R3 (a0.Leaders ++ [a1])), (25002, R47 a0.Network)]) ?_
  replace h := bsome h; obtain ⟨v83, hv83, h⟩ := h
  have hv83 := chkI_some hv83
  try simp only [List.length_append, List.length_cons, List.length_nil, Nat.zero_add, Int.natCast_add, Int.cast_ofNat_Int, Int.add_sub_cancel] at hv83
  refine .lastAnyS [[], [0], [0, 1], [0, 1, 2], [], [], [5], [5, 6], [5, 6, 7], [5, 6, 7, 8], [5, 6, 7, 8, 9], [0, 1, 2, 3, 4, 5, 6, 7, 8, 9, 10], [0, 1, 2, 3, 4, 5, 6, 7, 8, 9, 10, 11], [0, 1, 2, 3, 4, 5, 6, 7, 8, 9, 10, 11, 12]] (fun (b : Nat → Bool) => mk 116 [1000] [(0, .ptr 1000 0 0), (1, .i a1), (11, .i x58.1), (85, .d (.lit (itv itr58))), (90, (if b 0 then .ptr 1000 0 0 else .junk)), (91, (if b 1 then .ptr 1000 0 0 else .junk)), (92, (if b 2 then .ptr 1000 0 0 else .junk)), (93, (if b 3 then .ref 25000 0 l67.length else .junk)), (94, (if b 4 then .i x58.1 else .junk)), (95, (if b 5 then .ptr 1000 0 0 else .junk)), (96, (if b 6 then .ptr 1000 0 0 else .junk)), (97, (if b 7 then .ptr 1000 0 1 else .junk)), (98, (if b 8 then .ref 25001 0 ((a0.Leaders ++ [a1]).length) else .junk)), (99, (if b 9 then .i ((a0.Leaders ++ [a1]).length : Int) else .junk)), (100, (if b 10 then .i v83 else .junk)), (101, (if b 11 then .ptr 25000 k80 0 else .junk)), (102, (if b 12 then .ptr 25000 k80 0 else .junk))] [(1000, some (.box [.ref 25000 0 l67.length, .ref 25001 0 ((a0.Leaders ++ [a1]).length), .ref 25002 0 a0.Network.length])), (9081, R71 x79.Log), (9082, R3 x79.Match), (25000, (if b 13 then some (.nest 68 4 [none, none, some (71, 2), some (3, 1)] (l67.map cS68) [(k80, [.i v83, .i x79.Commit, .ref 9081 0 x79.Log.length, .ref 9082 0 x79.Match.length])]) else some (.nest 68 4 [none, none, some (71, 2), some (3, 1)] (l67.map cS68) [(k80, [.i x79.Term, .i x79.Commit, .ref 9081 0 x79.Log.length, .ref 9082 0 x79.Match.length])]))), (25001, R3 (a0.Leaders ++ [a1])), (25002, R47 a0.Network)]) (mk 116 [1000] [(0, .ptr 1000 0 0), (1, .i a1), (85, .d (.lit (itv itr58)))] [(1000, some (.box [.ref 25000 0 l67.length, .ref 25001 0 ((a0.Leaders ++ [a1]).length), .ref 25002 0 a0.Network.length])), (9081, R71 x79.Log), (9082, R3 x79.Match), (25000, some (.nest 68 4 [none, none, some (71, 2), some (3, 1)] (l67.map cS68) [(k80, [.i v83, .i x79.Commit, .ref 9081 0 x79.Log.length, .ref 9082 0 x79.Match.length])])), (25001, R3 (a0.Leaders ++ [a1])), (25002, R47 a0.Network)]) (by kernel_rfl) (by kernel_rfl) Sub.tt (Steps.cons ?_ (Steps.cons ?_ (Steps.cons ?_ (Steps.cons ?_ (Steps.cons ?_ (Steps.cons ?_ (Steps.cons ?_ (Steps.cons ?_ (Steps.cons ?_ (Steps.cons ?_ (Steps.cons ?_ (Steps.cons ?_ (Steps.cons ?_ (Steps.cons ?_ (Steps.nil))))))))))))))) ?_ ?_
  iterate 10
   ·intro b h0 ha hd
    have T := fct h0 ha hd; simp at T
    refine .runK [] 1 fun K k => ?_; simp [T]; refine k _ _ ?_; clear k K
    exact .nil (.table (by simp [T]) (by simp [T]))
  ·intro b h0 ha hd
   have T := fct h0 ha hd; simp at T
   refine .runK [] 1 fun K k => ?_; simp [T, hv83]; refine k _ _ ?_; clear k K
   exact .nil (.table (by simp [T]) (by simp [T]))
  ·intro b h0 ha hd
   have T := fct h0 ha hd; simp at T
   refine .runK [] 1 fun K k => ?_; simp [T, hx79k, hx79a, hx79b]; refine k _ _ ?_; clear k K
   exact .nil (.table (by simp [T]) (by simp [T]))
  iterate 2
   ·intro b h0 ha hd
    have T := fct h0 ha hd; simp at T
    refine .runK [] 1 fun K k => ?_; simp [T]; refine k _ _ ?_; clear k K
    exact .nil (.table (by simp [T]) (by simp [T]))
  ·intro b hb
   have t0 := hb 0 (by decide)
   have t1 := hb 1 (by decide)
   have t2 := hb 2 (by decide)
   have t3 := hb 3 (by decide)
   have t4 := hb 4 (by decide)
   have t5 := hb 5 (by decide)
   have t6 := hb 6 (by decide)
   have t7 := hb 7 (by decide)
   have t8 := hb 8 (by decide)
   have t9 := hb 9 (by decide)
   have t10 := hb 10 (by decide)
   have t11 := hb 11 (by decide)
   have t12 := hb 12 (by decide)
   have t13 := hb 13 (by decide)
   exact Sub.table (by simp [t0, t1, t2, t3, t4, t5, t6, t7, t8, t9, t10, t11, t12]) (by simp [t13])
  skip
  replace h := lsome h; obtain ⟨l84, gl84, h⟩ := h
  obtain ⟨hl84, hl84n⟩ := setI_some cS68 gl84 hx79k
  replace hl84 : (l67.map cS68).set k80 [.lit (.int .i64 v83), .lit (.int .i64 x79.Commit), .sl (x79.Log.map cS64), .sl (x79.Match.map (cI .i64))] = l84.map cS68 := hl84
  clear gl84
  cases h
  refine blockQ.normal ?_
  exact ⟨rfl, (Sub.trans (show Go.Ab.Sub _ (mk 116 [1000] [(0, .ptr 1000 0 0), (1, .i a1), (85, .d (.lit (itv itr58)))] [(1000, some (.box [.ref 25000 0 l84.length, .ref 25001 0 ((a0.Leaders ++ [a1]).length), .ref 25002 0 a0.Network.length])), (25000, some (.nest 68 4 [none, none, some (71, 2), some (3, 1)] (l84.map cS68) [])), (25001, R3 (a0.Leaders ++ [a1])), (25002, R47 a0.Network)]) from (Sub.trans (Sub.close 25000 k80 (e := [.lit (.int .i64 v83), .lit (.int .i64 x79.Commit), .sl (x79.Log.map cS64), .sl (x79.Match.map (cI .i64))]) (cs := [.i v83, .i x79.Commit, .ref 9081 0 x79.Log.length, .ref 9082 0 x79.Match.length]) (ks := [9081, 9082]) rfl rfl (by simp) (by decide) rfl) (by simp [hl84]; exact Sub.table (by simp) (by simp [hl84n])))) Sub.tt)⟩
 rintro l67 h
 replace h := bsome h; obtain ⟨x86, hx86, h⟩ := h
 obtain ⟨k87, hx86k, hx86, hx86a, hx86b⟩ := idx_some hx86
 refine .sub (.open 25000 k87 [9088, 9089] (e := cS68 x86) rfl rfl (by simp [hx86]) rfl (by simp) rfl) ?_
 refine .st (mk 116 [1000] [(0, .ptr 1000 0 0), (1, .i a1)] [(1000, some (.box [.ref 25000 0 l67.length, .ref 25001 0 ((a0.Leaders ++ [a1]).length), .ref 25002 0 a0.Network.length])), (9088, R71 x86.Log), (9089, R3 x86.Match), (25000, some (.nest 68 4 [none, none, some (71, 2), some (3, 1)] (l67.map cS68) [(k87, [.i x86.Term, .i x86.Commit, .ref 9088 0 x86.Log.length, .ref 9089 0 x86.Match.length])])), (25001, R3 (a0.Leaders ++ [a1])), (25002, R47 a0.Network)]) ?_
 replace h := bsome h; obtain ⟨l90, gl90, h⟩ := h
 obtain ⟨hl90a, hl90b, hl90c, hl90d⟩ := mkL_some (cI .i64) gl90
 clear gl90
 replace hl90c : List.replicate l90.length [.lit (.int .i64 0)] = l90.map (cI .i64) := hl90c
 refine .seqAnyS [[], [0], [0, 1], [0, 1, 2], [], [], [5], [5, 6], [5, 6, 7], [5, 6, 7, 8], [5, 6, 7, 8, 9], [0, 1, 2, 3, 4, 5, 6, 7, 8, 9, 10], [0, 1, 2, 3, 4, 5, 6, 7, 8, 9, 10, 11], [0, 1, 2, 3, 4, 5, 6, 7, 8, 9, 10, 11, 12]] (fun (b : Nat → Bool) => mk 116 [1000] [(0, .ptr 1000 0 0), (1, .i a1), (103, (if b 0 then .ptr 1000 0 0 else .junk)), (104, (if b 1 then .ptr 1000 0 0 else .junk)), (105, (if b 2 then .ptr 1000 0 0 else .junk)), (106, (if b 3 then .ref 25000 0 l67.length else .junk)), (107, (if b 4 then .i a1 else .junk)), (108, (if b 5 then .ptr 1000 0 0 else .junk)), (109, (if b 6 then .ptr 1000 0 0 else .junk)), (110, (if b 7 then .ptr 1000 0 0 else .junk)), (111, (if b 8 then .ref 25000 0 l67.length else .junk)), (112, (if b 9 then .i (l67.length : Int) else .junk)), (113, (if b 10 then .ref 113 0 l90.length else .junk)), (114, (if b 11 then .ptr 25000 k87 0 else .junk)), (115, (if b 12 then .ptr 25000 k87 3 else .junk))] [(113, (if b 10 then R3 l90 else none)), (1000, some (.box [.ref 25000 0 l67.length, .ref 25001 0 ((a0.Leaders ++ [a1]).length), .ref 25002 0 a0.Network.length])), (9088, R71 x86.Log), (9089, R3 x86.Match), (25000, (if b 13 then some (.nest 68 4 [none, none, some (71, 2), some (3, 1)] (l67.map cS68) [(k87, [.i x86.Term, .i x86.Commit, .ref 9088 0 x86.Log.length, .ref 113 0 l90.length])]) else some (.nest 68 4 [none, none, some (71, 2), some (3, 1)] (l67.map cS68) [(k87, [.i x86.Term, .i x86.Commit, .ref 9088 0 x86.Log.length, .ref 9089 0 x86.Match.length])]))), (25001, R3 (a0.Leaders ++ [a1])), (25002, R47 a0.Network)]) (mk 116 [1000] [] [(113, R3 l90), (1000, some (.box [.ref 25000 0 l67.length, .ref 25001 0 ((a0.Leaders ++ [a1]).length), .ref 25002 0 a0.Network.length])), (9088, R71 x86.Log), (25000, some (.nest 68 4 [none, none, some (71, 2), some (3, 1)] (l67.map cS68) [(k87, [.i x86.Term, .i x86.Commit, .ref 9088 0 x86.Log.length, .ref 113 0 l90.length])])), (25001, R3 (a0.Leaders ++ [a1])), (25002, R47 a0.Network)]) (by kernel_rfl) (by kernel_rfl) Sub.tt (Steps.cons ?_ (Steps.cons ?_ (Steps.cons ?_ (Steps.cons ?_ (Steps.cons ?_ (Steps.cons ?_ (Steps.cons ?_ (Steps.cons ?_ (Steps.cons ?_ (Steps.cons ?_ (Steps.cons ?_ (Steps.cons ?_ (Steps.cons ?_ (Steps.cons ?_ (Steps.nil))))))))))))))) ?_ ?_
 iterate 10
  ·intro b h0 ha hd
   have T := fct h0 ha hd; simp at T
   refine .runK [] 1 fun K k => ?_; simp [T]; refine k _ _ ?_; clear k K
   exact .nil (.table (by simp [T]) (by simp [T]))
 ·intro b h0 ha hd
  have T := fct h0 ha hd; simp at T
  refine .runK [] 1 fun K k => ?_; simp [T, hl90a, hl90b, hl90c, hl90d]; refine k _ _ ?_; clear k K
  exact .nil (.table (by simp [T]) (by simp [T]))
 ·intro b h0 ha hd
  have T := fct h0 ha hd; simp at T
  refine .runK [] 1 fun K k => ?_; simp [T, hx86k, hx86a, hx86b]; refine k _ _ ?_; clear k K
  exact .nil (.table (by simp [T]) (by simp [T]))
 iterate 2
  ·intro b h0 ha hd
   have T := fct h0 ha hd; simp at T
   refine .runK [] 1 fun K k => ?_; simp [T]; refine k _ _ ?_; clear k K
   exact .nil (.table (by simp [T]) (by simp [T]))
 ·intro b hb
  have t0 := hb 0 (by decide)
  have t1 := hb 1 (by decide)
  have t2 := hb 2 (by decide)
  have t3 := hb 3 (by decide)
  have t4 := hb 4 (by decide)
  have t5 := hb 5 (by decide)
  have t6 := hb 6 (by decide)
  have t7 := hb 7 (by decide)
  have t8 := hb 8 (by decide)
  have t9 := hb 9 (by decide)
  have t10 := hb 10 (by decide)
  have t11 := hb 11 (by decide)
  have t12 := hb 12 (by decide)
  have t13 := hb 13 (by decide)
  exact Sub.table (by simp [t0, t1, t2, t3, t4, t5, t6, t7, t8, t9, t10, t11, t12]) (by simp [t10, t13])
 skip
 replace h := lsome h; obtain ⟨l91, gl91, h⟩ := h
 obtain ⟨hl91, hl91n⟩ := setI_some cS68 gl91 hx86k
 replace hl91 : (l67.map cS68).set k87 [.lit (.int .i64 x86.Term), .lit (.int .i64 x86.Commit), .sl (x86.Log.map cS64), .sl (l90.map (cI .i64))] = l91.map cS68 := hl91
 clear gl91
 refine .sub (show Go.Ab.Sub _ (mk 116 [1000] [] [(1000, some (.box [.ref 25000 0 l91.length, .ref 25001 0 ((a0.Leaders ++ [a1]).length), .ref 25002 0 a0.Network.length])), (25000, some (.nest 68 4 [none, none, some (71, 2), some (3, 1)] (l91.map cS68) [])), (25001, R3 (a0.Leaders ++ [a1])), (25002, R47 a0.Network)]) from (Sub.trans (Sub.close 25000 k87 (e := [.lit (.int .i64 x86.Term), .lit (.int .i64 x86.Commit), .sl (x86.Log.map cS64), .sl (l90.map (cI .i64))]) (cs := [.i x86.Term, .i x86.Commit, .ref 9088 0 x86.Log.length, .ref 113 0 l90.length]) (ks := [9088, 113]) rfl rfl (by simp) (by decide) rfl) (by simp [hl91]; exact Sub.table (by simp) (by simp [hl91n])))) ?_
 refine .seqR ?_
 refine .runK [] 1 fun K k => ?_; simp; refine k _ _ ?_; clear k K
 refine .tt [(6, .i 0)] [(1000, some (.box [.ref 25000 0 l91.length, .ref 25001 0 ((a0.Leaders ++ [a1]).length), .ref 25002 0 a0.Network.length])), (25000, some (.nest 68 4 [none, none, some (71, 2), some (3, 1)] (l91.map cS68) [])), (25001, R3 (a0.Leaders ++ [a1])), (25002, R47 a0.Network)] ?_
 refine .nil ?_
 refine .ret ?_
 cases h
 exact FinF.ret (by simp) (by simp)
end Go.Proofs.Ytifcmomjjkbboab
