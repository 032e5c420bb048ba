/- Functions of the program as functional programs; the code computes them. -/
import Derived.Test.YtimkkjiplioohaaGreatDoorSt6
import Derived.Test.YtimkkjiplioohaaGreatDoorStJ
namespace Go.Proofs.YtimkkjiplioohaaGreatDoor
open Go.Ab Go.Rp
attribute [-simp] List.all_eq_true Array.all_toList Array.all_eq_true

/-- container/heap.down -/
def d134 (N : Nat) (a0 : S187) (a1 : Int) (a2 : Int) : Option (S187 × Bool) :=
 Option.bind (α := (Int × (List Int) × (List Bool) × (List S189))) (
  iterN (σ := (Int × (List Int) × (List Bool) × (List S189))) (ρ := (Int × (List Int) × (List Bool) × (List S189))) (fun ((v19, l20, l21, l22) : (Int × (List Int) × (List Bool) × (List S189))) =>
   (chkI (2 * v19)).bind fun v67 =>
   (chkI (v67 + 1)).bind fun v68 =>
   Option.bind (α := Bool) (
    if v68 ≥ a2 then (
     some true
    ) else
    some (decide (v68 < 0))
   ) fun (v70 : Bool) =>
   if v70 = true then (
    some (.inr (v19, l20, l21, l22))
   ) else
   (chkI (v68 + 1)).bind fun v73 =>
   Option.bind (α := Bool) (
    if v73 < a2 then (
     (d285 N (S187.mk (S65.mk l20 l21) l22) v73 v68).bind fun r78 =>
     some r78
    ) else
    some false
   ) fun (v76 : Bool) =>
   Option.bind (α := Int) (
    if v76 = true then (
     some v73
    ) else
    some v68
   ) fun (v80 : Int) =>
   (d285 N (S187.mk (S65.mk l20 l21) l22) v80 v19).bind fun r82 =>
   if (!r82) = true then (
    some (.inr (v19, l20, l21, l22))
   ) else
   (d288 N (S187.mk (S65.mk l20 l21) l22) v19 v80).bind fun r84 =>
   some (.inl (v80, r84.by_.Columns, r84.by_.Descending, r84.l))
  ) N (a1, a0.by_.Columns, a0.by_.Descending, a0.l)
 ) fun ((v63, l64, l65, l66) : (Int × (List Int) × (List Bool) × (List S189))) =>
 some ((S187.mk (S65.mk l64 l65) l66), decide (v63 > a1))
set_option maxRecDepth 100000 in
set_option maxHeartbeats 4000000 in
theorem p134 (N : Nat) (a0 : S187) (a1 : Int) (a2 : Int) (r : (S187 × Bool)) (h : d134 N a0 a1 a2 = some r) : FunM Tryz.prog 134 [.fn (.methodOf 184 "") [.ptr 1000 0 0], .i a1, .i a2] [(1000, some (.box [.d (.sl (a0.by_.Columns.map (cI .i64))), .d (.sl (a0.by_.Descending.map cB)), .ref 25002 0 a0.l.length])), (25002, R189 a0.l)] [1000] (.b r.2) ([(1000, (.box [.d (.sl (r.1.by_.Columns.map (cI .i64))), .d (.sl (r.1.by_.Descending.map cB)), .ref 25002 0 r.1.l.length])), (25002, (.arr 189 3 (r.1.l.map cS189)))]) := by
 unfold d134 at h
 refine FunM.enter 48 [(0, .fn (.methodOf 184 "") [.ptr 1000 0 0]), (1, .i a1), (2, .i a2)] Tryz.func134 rfl (of_decide_eq_true rfl) rfl rfl ?_
 refine .seqR ?_
 refine .runK [] 1 fun K k => ?_; simp; refine k _ _ ?_; clear k K
 refine .tt (L22 a1 a2) (H5 a0) ?_
 refine .nil ?_
 refine .seqR ?_
 refine .runK [] 2 fun K k => ?_; simp; refine k _ _ ?_; clear k K
 refine .tt (L22 a1 a2 ++ [(7, .i a1)]) (H5 a0) ?_
 refine .nil ?_
 refine .seqN (fun ((v63, l64, l65, l66) : (Int × (List Int) × (List Bool) × (List S189))) => mk 48 [1000] [(1, .i a1), (7, .i v63)] (H1 l64 l65 l66)) h ?_ ?_ <;> clear h
 ·intro o h
  refine .block ?_
  refine .iter (fun ((v19, l20, l21, l22) : (Int × (List Int) × (List Bool) × (List S189))) => mk 48 [1000] (L22 a1 a2 ++ [(7, .i v19)]) (H1 l20 l21 l22)) h Sub.tt ?_
  clear h
  rintro ⟨v19, l20, l21, l22⟩ x h
  dsimp only at h ⊢
  refine .block ?_
  refine .seqR ?_
  replace h := bsome h; obtain ⟨v67, hv67, h⟩ := h
  have hv67 := chkI_some hv67
  replace h := bsome h; obtain ⟨v68, hv68, h⟩ := h
  have hv68 := chkI_some hv68
  refine .runK [] 4 fun K k => ?_; simp [hv67, hv68]; refine k _ _ ?_; clear k K
  refine .tt (L23 a1 a2 v19 v68) (H1 l20 l21 l22) ?_
  refine .nil ?_
  refine .seq ?_
  replace h := bsome h; obtain ⟨v70, hj, h⟩ := h
  refine .cutR (mk 48 [1000] (L23 a1 a2 v19 v68 ++ [(21, .b v70)]) (H1 l20 l21 l22)) ?_ ?_
  ·clear h; have h := hj; clear hj
   refine .runK [] 4 fun K k => ?_; simp; refine k _ _ ?_; clear k K
   refine .tt (L23 a1 a2 v19 v68 ++ [(18, .b (decide (v68 ≥ a2)))]) (H1 l20 l21 l22) ?_
   replace h := isome h; rcases h with ⟨c71, h⟩ | ⟨c71, h⟩
   ·have c71_ : decide (v68 ≥ a2) = true := decide_eq_true c71
    refine .sub (.bool 18 (b := decide (v68 ≥ a2)) rfl c71_) ?_
    refine .st (mk 48 [1000] (L23 a1 a2 v19 v68 ++ [(18, .b true)]) (H1 l20 l21 l22)) ?_
    refine .runK [] 3 fun K k => ?_; simp; refine k _ _ ?_; clear k K
    refine .tt (L23 a1 a2 v19 v68 ++ [(19, .tup []), (20, .tup []), (21, .b true)]) (H1 l20 l21 l22) ?_
    cases h
    exact .nil .tt
   have c71_ : decide (v68 ≥ a2) = false := decide_eq_false c71
   refine .sub (.bool 18 (b := decide (v68 ≥ a2)) rfl c71_) ?_
   refine .st (mk 48 [1000] (L23 a1 a2 v19 v68 ++ [(18, .b false)]) (H1 l20 l21 l22)) ?_
   refine .runK [] 3 fun K k => ?_; simp; refine k _ _ ?_; clear k K
   refine .tt (L23 a1 a2 v19 v68 ++ [(19, .i v68), (20, .b (decide (v68 < 0))), (21, .b (decide (v68 < 0)))]) (H1 l20 l21 l22) ?_
   cases h
   exact .nil .tt
  clear hj
  replace h := isome h; rcases h with ⟨c72, h⟩ | ⟨c72, h⟩
  ·have c72_ : v70 = true := c72
   refine .condT (b := v70) rfl c72_ ?_
   refine .sub (.bool 21 (b := v70) rfl c72_) ?_
   refine .st (mk 48 [1000] (L23 a1 a2 v19 v68 ++ [(21, .b true)]) (H1 l20 l21 l22)) ?_
   refine .exit ?_
   cases h
   refine thenQ_pass (by simp) ?_
   refine blockQ.pass (by decide) ?_
   refine PostI.out (by simp) ?_
   rintro rfl
   refine blockQ.hit ?_
   refine PostN.next ?_
   exact Sub.tt
  have c72_ : v70 = false := Bool.eq_false_iff.2 c72
  refine .condF (b := v70) rfl c72_ ?_
  refine .sub (.bool 21 (b := v70) rfl c72_) ?_
  refine .st (mk 48 [1000] (L23 a1 a2 v19 v68 ++ [(21, .b false)]) (H1 l20 l21 l22)) ?_
  refine .skip ?_
  refine thenQ_normal ?_
  refine .seqR ?_
  refine .runK [] 2 fun K k => ?_; simp; refine k _ _ ?_; clear k K
  refine .tt (L23 a1 a2 v19 v68 ++ [(9, .i v68)]) (H1 l20 l21 l22) ?_
  refine .nil ?_
  refine .seq ?_
  refine .seqR ?_
  replace h := bsome h; obtain ⟨v73, hv73, h⟩ := h
  have hv73 := chkI_some hv73
  refine .runK [] 3 fun K k => ?_; simp [hv73]; refine k _ _ ?_; clear k K
  refine .tt (L24 a1 a2 v19 v68 v73) (H1 l20 l21 l22) ?_
  refine .nil ?_
  replace h := bsome h; obtain ⟨v76, hj, h⟩ := h
  refine .cutR (mk 48 [1000] (L25 a1 a2 v19 v68 v73 ++ [(33, .b v76)]) (H1 l20 l21 l22)) ?_ ?_
  ·clear h; have h := hj; clear hj
   refine .runK [] 4 fun K k => ?_; simp; refine k _ _ ?_; clear k K
   refine .tt (L24 a1 a2 v19 v68 v73 ++ [(28, .b (decide (v73 < a2)))]) (H1 l20 l21 l22) ?_
   replace h := isome h; rcases h with ⟨c77, h⟩ | ⟨c77, h⟩
   ·have c77_ : decide (v73 < a2) = true := decide_eq_true c77
    refine .sub (.bool 28 (b := decide (v73 < a2)) rfl c77_) ?_
    refine .st (mk 48 [1000] (L24 a1 a2 v19 v68 v73 ++ [(28, .b true)]) (H1 l20 l21 l22)) ?_
    refine .runK [] 3 fun K k => ?_; simp; refine k _ _ ?_; clear k K
    refine .tt (L25 a1 a2 v19 v68 v73 ++ [(28, .b true), (29, .fn (.methodOf 184 "") [.ptr 1000 0 0]), (30, .i v73), (31, .i v68)]) (H1 l20 l21 l22) ?_
    replace h := bsome h; obtain ⟨r78, hr78, h⟩ := h
    refine .callLG (d := 32) (p285 N (S187.mk (S65.mk l20 l21) l22) v73 v68 r78 hr78) (by simp) (.invoke (nm := "") meth285 ent285 rfl rfl (by simp <;> rfl)) rfl (by simp <;> rfl) ent285 (by simp <;> rfl) ?_
    refine .st (mk 48 [1000] (L25 a1 a2 v19 v68 v73 ++ [(28, .b true), (29, .fn (.methodOf 184 "") [.ptr 1000 0 0]), (30, .i v73), (31, .i v68), (32, .b r78)]) (H1 l20 l21 l22)) ?_
    refine .runK [] 1 fun K k => ?_; simp; refine k _ _ ?_; clear k K
    refine .tt (L25 a1 a2 v19 v68 v73 ++ [(29, .fn (.methodOf 184 "") [.ptr 1000 0 0]), (30, .i v73), (31, .i v68), (32, .b r78), (33, .b r78)]) (H1 l20 l21 l22) ?_
    cases h
    exact .nil .tt
   have c77_ : decide (v73 < a2) = false := decide_eq_false c77
   refine .sub (.bool 28 (b := decide (v73 < a2)) rfl c77_) ?_
   refine .st (mk 48 [1000] (L24 a1 a2 v19 v68 v73 ++ [(28, .b false)]) (H1 l20 l21 l22)) ?_
   refine .runK [] 5 fun K k => ?_; simp; refine k _ _ ?_; clear k K
   refine .tt (L25 a1 a2 v19 v68 v73 ++ [(29, .tup []), (30, .tup []), (31, .tup []), (32, .tup []), (33, .b false)]) (H1 l20 l21 l22) ?_
   cases h
   exact .nil .tt
  clear hj
  refine .lastN (fun (v80 : Int) => mk 48 [1000] (L26 a1 a2 v19 v80) (H1 l20 l21 l22)) h ?_ ?_ <;> clear h
  ·intro o h
   replace h := isome h; rcases h with ⟨c81, h⟩ | ⟨c81, h⟩
   ·have c81_ : v76 = true := c81
    refine .condT (b := v76) rfl c81_ ?_
    refine .sub (.bool 33 (b := v76) rfl c81_) ?_
    refine .st (mk 48 [1000] (L25 a1 a2 v19 v68 v73 ++ [(33, .b true)]) (H1 l20 l21 l22)) ?_
    refine .region ?_
    refine .runK [] 2 fun K k => ?_; simp; refine k _ _ ?_; clear k K
    refine .tt (L26 a1 a2 v19 v73) (H1 l20 l21 l22) ?_
    refine .nil ?_
    cases h
    refine PostN.next ?_
    exact Sub.tt
   have c81_ : v76 = false := Bool.eq_false_iff.2 c81
   refine .condF (b := v76) rfl c81_ ?_
   refine .sub (.bool 33 (b := v76) rfl c81_) ?_
   refine .st (mk 48 [1000] (L25 a1 a2 v19 v68 v73 ++ [(33, .b false)]) (H1 l20 l21 l22)) ?_
   refine .skip ?_
   cases h
   refine PostN.next ?_
   exact Sub.tt
  rintro v80 h
  refine thenQ_normal ?_
  refine .seq ?_
  refine .seqR ?_
  refine .runK [] 3 fun K k => ?_; simp; refine k _ _ ?_; clear k K
  refine .tt (L26 a1 a2 v19 v80 ++ [(35, .fn (.methodOf 184 "") [.ptr 1000 0 0]), (36, .i v80), (37, .i v19)]) (H1 l20 l21 l22) ?_
  replace h := bsome h; obtain ⟨r82, hr82, h⟩ := h
  refine .callLG (d := 38) (p285 N (S187.mk (S65.mk l20 l21) l22) v80 v19 r82 hr82) (by simp) (.invoke (nm := "") meth285 ent285 rfl rfl (by simp <;> rfl)) rfl (by simp <;> rfl) ent285 (by simp <;> rfl) ?_
  refine .st (mk 48 [1000] (L26 a1 a2 v19 v80 ++ [(35, .fn (.methodOf 184 "") [.ptr 1000 0 0]), (36, .i v80), (37, .i v19), (38, .b r82)]) (H1 l20 l21 l22)) ?_
  refine .runK [] 1 fun K k => ?_; simp; refine k _ _ ?_; clear k K
  refine .tt (L26 a1 a2 v19 v80 ++ [(39, .b (!r82))]) (H1 l20 l21 l22) ?_
  refine .nil ?_
  replace h := isome h; rcases h with ⟨c83, h⟩ | ⟨c83, h⟩
  ·have c83_ : (!r82) = true := c83
   refine .condT (b := (!r82)) rfl c83_ ?_
   refine .sub (.bool 39 (b := (!r82)) rfl c83_) ?_
   refine .st (mk 48 [1000] (L26 a1 a2 v19 v80 ++ [(39, .b true)]) (H1 l20 l21 l22)) ?_
   refine .exit ?_
   cases h
   refine thenQ_pass (by simp) ?_
   refine blockQ.pass (by decide) ?_
   refine PostI.out (by simp) ?_
   rintro rfl
   refine blockQ.hit ?_
   refine PostN.next ?_
   exact Sub.tt
  have c83_ : (!r82) = false := Bool.eq_false_iff.2 c83
  refine .condF (b := (!r82)) rfl c83_ ?_
  refine .sub (.bool 39 (b := (!r82)) rfl c83_) ?_
  refine .st (mk 48 [1000] (L26 a1 a2 v19 v80 ++ [(39, .b false)]) (H1 l20 l21 l22)) ?_
  refine .skip ?_
  refine thenQ_normal ?_
  refine .seqR ?_
  refine .runK [] 3 fun K k => ?_; simp; refine k _ _ ?_; clear k K
  refine .tt (L22 a1 a2 ++ [(9, .i v80), (40, .fn (.methodOf 184 "") [.ptr 1000 0 0]), (41, .i v19), (42, .i v80)]) (H1 l20 l21 l22) ?_
  replace h := bsome h; obtain ⟨r84, hr84, h⟩ := h
  refine .callFG (p288 N (S187.mk (S65.mk l20 l21) l22) v19 v80 r84 hr84) [(1000, 1000), (25002, 25002)] [1000] [(1000, 1000), (25002, 25002)] [(1000, (.box [.d (.sl (r84.by_.Columns.map (cI .i64))), .d (.sl (r84.by_.Descending.map cB)), .ref 25002 0 r84.l.length])), (25002, (.arr 189 3 (r84.l.map cS189)))] (.tup []) (by simp) (.invoke (nm := "") meth288 ent288 rfl rfl (by simp <;> rfl)) (by simp) (by simp) (by simp) (by simp) (by simp) (by simp) (by simp) (by simp) (by simp) (by simp) (by simp) ?_
  refine .st (mk 48 [1000] (L22 a1 a2 ++ [(9, .i v80), (40, .fn (.methodOf 184 "") [.ptr 1000 0 0]), (41, .i v19), (42, .i v80), (43, .tup [])]) (H5 r84)) ?_
  refine .nil ?_
  refine .region ?_
  refine .runK [] 2 fun K k => ?_; simp; refine k _ _ ?_; clear k K
  refine .tt (L22 a1 a2 ++ [(7, .i v80)]) (H5 r84) ?_
  refine .nil ?_
  cases h
  refine blockQ.normal ?_
  refine PostI.next ?_
  exact Sub.tt
 rintro ⟨v63, l64, l65, l66⟩ h
 dsimp only at h ⊢
 refine .seqR ?_
 refine .runK [] 4 fun K k => ?_; simp; refine k _ _ ?_; clear k K
 refine .tt [(6, .b (decide (v63 > a1)))] (H1 l64 l65 l66) ?_
 refine .nil ?_
 refine .ret ?_
 cases h
 exact FinF.ret (by simp) (by simp)
/-- container/heap.Init -/
def d113 (N : Nat) (a0 : S187) : Option S187 :=
 (d114 N a0).bind fun r1 =>
 (quoI r1 2).bind fun v2 =>
 (chkI (v2 - 1)).bind fun v3 =>
 Option.bind (α := ((List Int) × (List Bool) × (List S189))) (
  iterN (σ := (Int × (List Int) × (List Bool) × (List S189))) (ρ := ((List Int) × (List Bool) × (List S189))) (fun ((v7, l8, l9, l10) : (Int × (List Int) × (List Bool) × (List S189))) =>
   if v7 ≥ 0 then (
    (d134 N (S187.mk (S65.mk l8 l9) l10) v7 r1).bind fun r25 =>
    (chkI (v7 - 1)).bind fun v26 =>
    some (.inl (v26, r25.1.by_.Columns, r25.1.by_.Descending, r25.1.l))
   ) else
   some (.inr (l8, l9, l10))
  ) N (v3, a0.by_.Columns, a0.by_.Descending, a0.l)
 ) fun ((l21, l22, l23) : ((List Int) × (List Bool) × (List S189))) =>
 some (S187.mk (S65.mk l21 l22) l23)
set_option maxRecDepth 100000 in
set_option maxHeartbeats 4000000 in
theorem p113 (N : Nat) (a0 : S187) (r : S187) (h : d113 N a0 = some r) : FunM Tryz.prog 113 [.fn (.methodOf 184 "") [.ptr 1000 0 0]] [(1000, some (.box [.d (.sl (a0.by_.Columns.map (cI .i64))), .d (.sl (a0.by_.Descending.map cB)), .ref 25002 0 a0.l.length])), (25002, R189 a0.l)] [1000] (.tup []) ([(1000, (.box [.d (.sl (r.by_.Columns.map (cI .i64))), .d (.sl (r.by_.Descending.map cB)), .ref 25002 0 r.l.length])), (25002, (.arr 189 3 (r.l.map cS189)))]) := by
 unfold d113 at h
 refine FunM.enter 17 [(0, .fn (.methodOf 184 "") [.ptr 1000 0 0])] Tryz.func113 rfl (of_decide_eq_true rfl) rfl rfl ?_
 refine .seqR ?_
 refine .runK [] 1 fun K k => ?_; simp; refine k _ _ ?_; clear k K
 refine .tt (L27) (H5 a0) ?_
 replace h := bsome h; obtain ⟨r1, hr1, h⟩ := h
 refine .callLG (d := 5) (p114 N a0 r1 hr1) (by simp) (.invoke (nm := "") meth114 ent114 rfl rfl (by simp <;> rfl)) rfl (by simp <;> rfl) ent114 (by simp <;> rfl) ?_
 refine .st (mk 17 [1000] (L27 ++ [(5, .i r1)]) (H5 a0)) ?_
 refine .runK [] 1 fun K k => ?_; simp; refine k _ _ ?_; clear k K
 refine .tt [(0, .fn (.methodOf 184 "") [.ptr 1000 0 0]), (2, .i r1)] (H5 a0) ?_
 refine .nil ?_
 refine .seqR ?_
 replace h := bsome h; obtain ⟨v2, hv2, h⟩ := h
 obtain ⟨hv2a, hv2⟩ := quoI_some hv2
 replace h := bsome h; obtain ⟨v3, hv3, h⟩ := h
 have hv3 := chkI_some hv3
 refine .runK [] 4 fun K k => ?_; simp [hv2, hv2a, hv3]; refine k _ _ ?_; clear k K
 refine .tt (L28 r1 v3) (H5 a0) ?_
 refine .nil ?_
 refine .lastN (fun ((l21, l22, l23) : ((List Int) × (List Bool) × (List S189))) => mk 17 [1000] [] (H1 l21 l22 l23)) h ?_ ?_ <;> clear h
 ·intro o h
  refine .block ?_
  refine .iter (fun ((v7, l8, l9, l10) : (Int × (List Int) × (List Bool) × (List S189))) => mk 17 [1000] (L28 r1 v7) (H1 l8 l9 l10)) h Sub.tt ?_
  clear h
  rintro ⟨v7, l8, l9, l10⟩ x h
  dsimp only at h ⊢
  refine .seq ?_
  refine .seqR ?_
  refine .runK [] 2 fun K k => ?_; simp; refine k _ _ ?_; clear k K
  refine .tt (L28 r1 v7 ++ [(10, .b (decide (v7 ≥ 0)))]) (H1 l8 l9 l10) ?_
  refine .nil ?_
  replace h := isome h; rcases h with ⟨c24, h⟩ | ⟨c24, h⟩
  ·have c24_ : decide (v7 ≥ 0) = true := decide_eq_true c24
   refine .condT (b := decide (v7 ≥ 0)) rfl c24_ ?_
   refine .sub (.bool 10 (b := decide (v7 ≥ 0)) rfl c24_) ?_
   refine .st (mk 17 [1000] (L28 r1 v7 ++ [(10, .b true)]) (H1 l8 l9 l10)) ?_
   refine .skip ?_
   refine thenQ_normal ?_
   refine .seq ?_
   refine .block ?_
   refine .region ?_
   refine .runK [] 3 fun K k => ?_; simp; refine k _ _ ?_; clear k K
   refine .tt (L28 r1 v7 ++ [(13, .fn (.methodOf 184 "") [.ptr 1000 0 0]), (14, .i v7), (15, .i r1)]) (H1 l8 l9 l10) ?_
   replace h := bsome h; obtain ⟨r25, hr25, h⟩ := h
   refine .callF (p134 N (S187.mk (S65.mk l8 l9) l10) v7 r1 r25 hr25) [(1000, 1000), (25002, 25002)] [1000] [(1000, 1000), (25002, 25002)] [(1000, (.box [.d (.sl (r25.1.by_.Columns.map (cI .i64))), .d (.sl (r25.1.by_.Descending.map cB)), .ref 25002 0 r25.1.l.length])), (25002, (.arr 189 3 (r25.1.l.map cS189)))] (.b r25.2) (by simp) rfl (by simp <;> rfl) (by simp) (by simp) (by simp) (by simp) (by simp) ent134 (by simp) (by simp) (by simp) (by simp) (by simp) (by simp) ?_
   refine .st (mk 17 [1000] (L28 r1 v7 ++ [(13, .fn (.methodOf 184 "") [.ptr 1000 0 0]), (14, .i v7), (15, .i r1), (16, .b r25.2)]) (H5 r25.1)) ?_
   refine .nil ?_
   refine blockQ.normal ?_
   refine thenQ_normal ?_
   refine .region ?_
   replace h := bsome h; obtain ⟨v26, hv26, h⟩ := h
   have hv26 := chkI_some hv26
   refine .runK [] 3 fun K k => ?_; simp [hv26]; refine k _ _ ?_; clear k K
   refine .tt (L28 r1 v26) (H5 r25.1) ?_
   refine .nil ?_
   cases h
   refine PostI.next ?_
   exact Sub.tt
  have c24_ : decide (v7 ≥ 0) = false := decide_eq_false c24
  refine .condF (b := decide (v7 ≥ 0)) rfl c24_ ?_
  refine .sub (.bool 10 (b := decide (v7 ≥ 0)) rfl c24_) ?_
  refine .st (mk 17 [1000] (L28 r1 v7 ++ [(10, .b false)]) (H1 l8 l9 l10)) ?_
  refine .exit ?_
  cases h
  refine thenQ_pass (by simp) ?_
  refine PostI.out (by simp) ?_
  rintro rfl
  refine blockQ.hit ?_
  refine PostN.next ?_
  exact Sub.tt
 rintro ⟨l21, l22, l23⟩ h
 dsimp only at h ⊢
 cases h
 exact FinF.normal (by simp) (by simp)
/-- container/heap.Pop -/
def d115 (N : Nat) (a0 : S187) : Option (S187 × S189) :=
 (d114 N a0).bind fun r1 =>
 (chkI (r1 - 1)).bind fun v2 =>
 (d288 N a0 0 v2).bind fun r3 =>
 (d134 N r3 0 v2).bind fun r4 =>
 (d286 N r4.1).bind fun r5 =>
 some (r5.1, r5.2)
set_option maxRecDepth 100000 in
set_option maxHeartbeats 4000000 in
theorem p115 (N : Nat) (a0 : S187) (r : (S187 × S189)) (h : d115 N a0 = some r) : FunM Tryz.prog 115 [.fn (.methodOf 184 "") [.ptr 1000 0 0]] [(1000, some (.box [.d (.sl (a0.by_.Columns.map (cI .i64))), .d (.sl (a0.by_.Descending.map cB)), .ref 25002 0 a0.l.length])), (25002, R189 a0.l)] [1000] (.fn (.methodOf 189 "") [.agg [.d (.sl (r.2.row.map cS61)), .i r.2.run, .d (.sl (r.2.rest.map (cL cS61)))]]) ([(1000, (.box [.d (.sl (r.1.by_.Columns.map (cI .i64))), .d (.sl (r.1.by_.Descending.map cB)), .ref 25002 0 r.1.l.length])), (25002, (.arr 189 3 (r.1.l.map cS189)))]) := by
 unfold d115 at h
 refine FunM.enter 15 [(0, .fn (.methodOf 184 "") [.ptr 1000 0 0])] Tryz.func115 rfl (of_decide_eq_true rfl) rfl rfl ?_
 refine .seqR ?_
 refine .runK [] 1 fun K k => ?_; simp; refine k _ _ ?_; clear k K
 refine .tt [(0, .fn (.methodOf 184 "") [.ptr 1000 0 0])] (H5 a0) ?_
 refine .nil ?_
 refine .seqR ?_
 refine .runK [] 1 fun K k => ?_; simp; refine k _ _ ?_; clear k K
 refine .tt (L27) (H5 a0) ?_
 replace h := bsome h; obtain ⟨r1, hr1, h⟩ := h
 refine .callLG (d := 5) (p114 N a0 r1 hr1) (by simp) (.invoke (nm := "") meth114 ent114 rfl rfl (by simp <;> rfl)) rfl (by simp <;> rfl) ent114 (by simp <;> rfl) ?_
 refine .st (mk 15 [1000] (L27 ++ [(5, .i r1)]) (H5 a0)) ?_
 replace h := bsome h; obtain ⟨v2, hv2, h⟩ := h
 have hv2 := chkI_some hv2
 refine .runK [] 2 fun K k => ?_; simp [hv2]; refine k _ _ ?_; clear k K
 refine .tt [(0, .fn (.methodOf 184 "") [.ptr 1000 0 0]), (3, .i v2)] (H5 a0) ?_
 refine .nil ?_
 refine .seqR ?_
 refine .runK [] 2 fun K k => ?_; simp; refine k _ _ ?_; clear k K
 refine .tt [(0, .fn (.methodOf 184 "") [.ptr 1000 0 0]), (3, .i v2), (7, .fn (.methodOf 184 "") [.ptr 1000 0 0]), (8, .i v2)] (H5 a0) ?_
 replace h := bsome h; obtain ⟨r3, hr3, h⟩ := h
 refine .callFG (p288 N a0 0 v2 r3 hr3) [(1000, 1000), (25002, 25002)] [1000] [(1000, 1000), (25002, 25002)] [(1000, (.box [.d (.sl (r3.by_.Columns.map (cI .i64))), .d (.sl (r3.by_.Descending.map cB)), .ref 25002 0 r3.l.length])), (25002, (.arr 189 3 (r3.l.map cS189)))] (.tup []) (by simp) (.invoke (nm := "") meth288 ent288 rfl rfl (by simp <;> rfl)) (by simp) (by simp) (by simp) (by simp) (by simp) (by simp) (by simp) (by simp) (by simp) (by simp) (by simp) ?_
 refine .st (mk 15 [1000] [(0, .fn (.methodOf 184 "") [.ptr 1000 0 0]), (3, .i v2), (7, .fn (.methodOf 184 "") [.ptr 1000 0 0]), (8, .i v2), (9, .tup [])] (H5 r3)) ?_
 refine .nil ?_
 refine .seqR ?_
 refine .runK [] 2 fun K k => ?_; simp; refine k _ _ ?_; clear k K
 refine .tt [(0, .fn (.methodOf 184 "") [.ptr 1000 0 0]), (10, .fn (.methodOf 184 "") [.ptr 1000 0 0]), (11, .i v2)] (H5 r3) ?_
 replace h := bsome h; obtain ⟨r4, hr4, h⟩ := h
 refine .callF (p134 N r3 0 v2 r4 hr4) [(1000, 1000), (25002, 25002)] [1000] [(1000, 1000), (25002, 25002)] [(1000, (.box [.d (.sl (r4.1.by_.Columns.map (cI .i64))), .d (.sl (r4.1.by_.Descending.map cB)), .ref 25002 0 r4.1.l.length])), (25002, (.arr 189 3 (r4.1.l.map cS189)))] (.d (.lit (.bool r4.2))) (by simp) rfl (by simp <;> rfl) (by simp) (by simp) (by simp) (by simp) (by simp) ent134 (by simp) (by simp) (by simp) (by simp) (by simp) (by simp) ?_
 refine .st (mk 15 [1000] [(0, .fn (.methodOf 184 "") [.ptr 1000 0 0]), (10, .fn (.methodOf 184 "") [.ptr 1000 0 0]), (11, .i v2), (12, .b r4.2)] (H5 r4.1)) ?_
 refine .nil ?_
 refine .seqR ?_
 refine .runK [] 1 fun K k => ?_; simp; refine k _ _ ?_; clear k K
 refine .tt [(13, .fn (.methodOf 184 "") [.ptr 1000 0 0])] (H5 r4.1) ?_
 replace h := bsome h; obtain ⟨r5, hr5, h⟩ := h
 refine .callFG (p286 N r4.1 r5 hr5) [(1000, 1000), (25002, 25002)] [1000] [(1000, 1000), (25002, 25002)] [(1000, (.box [.d (.sl (r5.1.by_.Columns.map (cI .i64))), .d (.sl (r5.1.by_.Descending.map cB)), .ref 25002 0 r5.1.l.length])), (25002, (.arr 189 3 (r5.1.l.map cS189)))] (.fn (.methodOf 189 "") [.agg [.d (.sl (r5.2.row.map cS61)), .d (.lit (.int .i64 r5.2.run)), .d (.sl (r5.2.rest.map (cL cS61)))]]) (by simp) (.invoke (nm := "") meth286 ent286 rfl rfl (by simp <;> rfl)) (by simp) (by simp) (by simp) (by simp) (by simp) (by simp) (by simp) (by simp) (by simp) (by simp) (by simp) ?_
 refine .st (mk 15 [1000] [(13, .fn (.methodOf 184 "") [.ptr 1000 0 0]), (14, .fn (.methodOf 189 "") [.agg [.d (.sl (r5.2.row.map cS61)), .i r5.2.run, .d (.sl (r5.2.rest.map (cL cS61)))]])] (H5 r5.1)) ?_
 refine .runK [] 1 fun K k => ?_; simp; refine k _ _ ?_; clear k K
 refine .tt [(2, .fn (.methodOf 189 "") [.agg [.d (.sl (r5.2.row.map cS61)), .i r5.2.run, .d (.sl (r5.2.rest.map (cL cS61)))]])] (H5 r5.1) ?_
 refine .nil ?_
 refine .ret ?_
 cases h
 exact FinF.ret (by simp) (by simp)
/-- container/heap.up -/
def d135 (N : Nat) (a0 : S187) (a1 : Int) : Option S187 :=
 Option.bind (α := ((List Int) × (List Bool) × (List S189))) (
  iterN (σ := (Int × (List Int) × (List Bool) × (List S189))) (ρ := ((List Int) × (List Bool) × (List S189))) (fun ((v10, l11, l12, l13) : (Int × (List Int) × (List Bool) × (List S189))) =>
   (chkI (v10 - 1)).bind fun v39 =>
   (quoI v39 2).bind fun v40 =>
   Option.bind (α := Bool) (
    if (v40 == v10) then (
     some true
    ) else
    (d285 N (S187.mk (S65.mk l11 l12) l13) v10 v40).bind fun r45 =>
    some (!r45)
   ) fun (v43 : Bool) =>
   if v43 = true then (
    some (.inr (l11, l12, l13))
   ) else
   (d288 N (S187.mk (S65.mk l11 l12) l13) v40 v10).bind fun r47 =>
   some (.inl (v40, r47.by_.Columns, r47.by_.Descending, r47.l))
  ) N (a1, a0.by_.Columns, a0.by_.Descending, a0.l)
 ) fun ((l36, l37, l38) : ((List Int) × (List Bool) × (List S189))) =>
 some (S187.mk (S65.mk l36 l37) l38)
set_option maxRecDepth 100000 in
set_option maxHeartbeats 4000000 in
theorem p135 (N : Nat) (a0 : S187) (a1 : Int) (r : S187) (h : d135 N a0 a1 = some r) : FunM Tryz.prog 135 [.fn (.methodOf 184 "") [.ptr 1000 0 0], .i a1] [(1000, some (.box [.d (.sl (a0.by_.Columns.map (cI .i64))), .d (.sl (a0.by_.Descending.map cB)), .ref 25002 0 a0.l.length])), (25002, R189 a0.l)] [1000] (.tup []) ([(1000, (.box [.d (.sl (r.by_.Columns.map (cI .i64))), .d (.sl (r.by_.Descending.map cB)), .ref 25002 0 r.l.length])), (25002, (.arr 189 3 (r.l.map cS189)))]) := by
 unfold d135 at h
 refine FunM.enter 23 [(0, .fn (.methodOf 184 "") [.ptr 1000 0 0]), (1, .i a1)] Tryz.func135 rfl (of_decide_eq_true rfl) rfl rfl ?_
 refine .lastN (fun ((l36, l37, l38) : ((List Int) × (List Bool) × (List S189))) => mk 23 [1000] [] (H1 l36 l37 l38)) h ?_ ?_ <;> clear h
 ·intro o h
  refine .block ?_
  refine .iter (fun ((v10, l11, l12, l13) : (Int × (List Int) × (List Bool) × (List S189))) => mk 23 [1000] [(0, .fn (.methodOf 184 "") [.ptr 1000 0 0]), (1, .i v10)] (H1 l11 l12 l13)) h Sub.tt ?_
  clear h
  rintro ⟨v10, l11, l12, l13⟩ x h
  dsimp only at h ⊢
  refine .block ?_
  refine .seqR ?_
  replace h := bsome h; obtain ⟨v39, hv39, h⟩ := h
  have hv39 := chkI_some hv39
  replace h := bsome h; obtain ⟨v40, hv40, h⟩ := h
  obtain ⟨hv40a, hv40⟩ := quoI_some hv40
  refine .runK [] 4 fun K k => ?_; simp [hv39, hv40, hv40a]; refine k _ _ ?_; clear k K
  refine .tt (L29 v10 v40) (H1 l11 l12 l13) ?_
  refine .nil ?_
  refine .seq ?_
  replace h := bsome h; obtain ⟨v43, hj, h⟩ := h
  refine .cutR (mk 23 [1000] (L29 v10 v40 ++ [(17, .b v43)]) (H1 l11 l12 l13)) ?_ ?_
  ·clear h; have h := hj; clear hj
   refine .runK [] 4 fun K k => ?_; simp; refine k _ _ ?_; clear k K
   refine .tt (L29 v10 v40 ++ [(11, .b (v40 == v10))]) (H1 l11 l12 l13) ?_
   replace h := isome h; rcases h with ⟨c44, h⟩ | ⟨c44, h⟩
   ·have c44_ : (v40 == v10) = true := c44
    refine .sub (.bool 11 (b := (v40 == v10)) rfl c44_) ?_
    refine .st (mk 23 [1000] (L29 v10 v40 ++ [(11, .b true)]) (H1 l11 l12 l13)) ?_
    refine .runK [] 6 fun K k => ?_; simp; refine k _ _ ?_; clear k K
    refine .tt (L29 v10 v40 ++ [(12, .tup []), (13, .tup []), (14, .tup []), (15, .tup []), (16, .tup []), (17, .b true)]) (H1 l11 l12 l13) ?_
    cases h
    exact .nil .tt
   have c44_ : (v40 == v10) = false := Bool.eq_false_iff.2 c44
   refine .sub (.bool 11 (b := (v40 == v10)) rfl c44_) ?_
   refine .st (mk 23 [1000] (L30 v10 v40) (H1 l11 l12 l13)) ?_
   refine .runK [] 3 fun K k => ?_; simp; refine k _ _ ?_; clear k K
   refine .tt (L30 v10 v40 ++ [(12, .fn (.methodOf 184 "") [.ptr 1000 0 0]), (13, .i v10), (14, .i v40)]) (H1 l11 l12 l13) ?_
   replace h := bsome h; obtain ⟨r45, hr45, h⟩ := h
   refine .callLG (d := 15) (p285 N (S187.mk (S65.mk l11 l12) l13) v10 v40 r45 hr45) (by simp) (.invoke (nm := "") meth285 ent285 rfl rfl (by simp <;> rfl)) rfl (by simp <;> rfl) ent285 (by simp <;> rfl) ?_
   refine .st (mk 23 [1000] (L30 v10 v40 ++ [(12, .fn (.methodOf 184 "") [.ptr 1000 0 0]), (13, .i v10), (14, .i v40), (15, .b r45)]) (H1 l11 l12 l13)) ?_
   refine .runK [] 2 fun K k => ?_; simp; refine k _ _ ?_; clear k K
   refine .tt (L29 v10 v40 ++ [(12, .fn (.methodOf 184 "") [.ptr 1000 0 0]), (13, .i v10), (14, .i v40), (15, .b r45), (16, .b (!r45)), (17, .b (!r45))]) (H1 l11 l12 l13) ?_
   cases h
   exact .nil .tt
  clear hj
  replace h := isome h; rcases h with ⟨c46, h⟩ | ⟨c46, h⟩
  ·have c46_ : v43 = true := c46
   refine .condT (b := v43) rfl c46_ ?_
   refine .sub (.bool 17 (b := v43) rfl c46_) ?_
   refine .st (mk 23 [1000] (L29 v10 v40 ++ [(17, .b true)]) (H1 l11 l12 l13)) ?_
   refine .exit ?_
   cases h
   refine thenQ_pass (by simp) ?_
   refine blockQ.pass (by decide) ?_
   refine PostI.out (by simp) ?_
   rintro rfl
   refine blockQ.hit ?_
   refine PostN.next ?_
   exact Sub.tt
  have c46_ : v43 = false := Bool.eq_false_iff.2 c46
  refine .condF (b := v43) rfl c46_ ?_
  refine .sub (.bool 17 (b := v43) rfl c46_) ?_
  refine .st (mk 23 [1000] (L29 v10 v40 ++ [(17, .b false)]) (H1 l11 l12 l13)) ?_
  refine .skip ?_
  refine thenQ_normal ?_
  refine .seqR ?_
  refine .runK [] 3 fun K k => ?_; simp; refine k _ _ ?_; clear k K
  refine .tt [(0, .fn (.methodOf 184 "") [.ptr 1000 0 0]), (4, .i v40), (18, .fn (.methodOf 184 "") [.ptr 1000 0 0]), (19, .i v40), (20, .i v10)] (H1 l11 l12 l13) ?_
  replace h := bsome h; obtain ⟨r47, hr47, h⟩ := h
  refine .callFG (p288 N (S187.mk (S65.mk l11 l12) l13) v40 v10 r47 hr47) [(1000, 1000), (25002, 25002)] [1000] [(1000, 1000), (25002, 25002)] [(1000, (.box [.d (.sl (r47.by_.Columns.map (cI .i64))), .d (.sl (r47.by_.Descending.map cB)), .ref 25002 0 r47.l.length])), (25002, (.arr 189 3 (r47.l.map cS189)))] (.tup []) (by simp) (.invoke (nm := "") meth288 ent288 rfl rfl (by simp <;> rfl)) (by simp) (by simp) (by simp) (by simp) (by simp) (by simp) (by simp) (by simp) (by simp) (by simp) (by simp) ?_
  refine .st (mk 23 [1000] [(0, .fn (.methodOf 184 "") [.ptr 1000 0 0]), (4, .i v40), (18, .fn (.methodOf 184 "") [.ptr 1000 0 0]), (19, .i v40), (20, .i v10), (21, .tup [])] (H5 r47)) ?_
  refine .nil ?_
  refine .region ?_
  refine .runK [] 2 fun K k => ?_; simp; refine k _ _ ?_; clear k K
  refine .tt [(0, .fn (.methodOf 184 "") [.ptr 1000 0 0]), (1, .i v40)] (H5 r47) ?_
  refine .nil ?_
  cases h
  refine blockQ.normal ?_
  refine PostI.next ?_
  exact Sub.tt
 rintro ⟨l36, l37, l38⟩ h
 dsimp only at h ⊢
 cases h
 exact FinF.normal (by simp) (by simp)
/-- container/heap.Push -/
def d116 (N : Nat) (a0 : S187) (a1 : S189) : Option S187 :=
 (d287 N a0 a1).bind fun r1 =>
 (d114 N r1).bind fun r2 =>
 (chkI (r2 - 1)).bind fun v3 =>
 (d135 N r1 v3).bind fun r4 =>
 some r4
set_option maxRecDepth 100000 in
set_option maxHeartbeats 4000000 in
theorem p116 (N : Nat) (a0 : S187) (a1 : S189) (r : S187) (h : d116 N a0 a1 = some r) : FunM Tryz.prog 116 [.fn (.methodOf 184 "") [.ptr 1000 0 0], .fn (.methodOf 189 "") [.agg [.d (.sl (a1.row.map cS61)), .i a1.run, .d (.sl (a1.rest.map (cL cS61)))]]] [(1000, some (.box [.d (.sl (a0.by_.Columns.map (cI .i64))), .d (.sl (a0.by_.Descending.map cB)), .ref 25002 0 a0.l.length])), (25002, R189 a0.l)] [1000] (.tup []) ([(1000, (.box [.d (.sl (r.by_.Columns.map (cI .i64))), .d (.sl (r.by_.Descending.map cB)), .ref 25002 0 r.l.length])), (25002, (.arr 189 3 (r.l.map cS189)))]) := by
 unfold d116 at h
 refine FunM.enter 12 [(0, .fn (.methodOf 184 "") [.ptr 1000 0 0]), (1, .fn (.methodOf 189 "") [.agg [.d (.sl (a1.row.map cS61)), .i a1.run, .d (.sl (a1.rest.map (cL cS61)))]])] Tryz.func116 rfl (of_decide_eq_true rfl) rfl rfl ?_
 refine .seqR ?_
 refine .runK [] 2 fun K k => ?_; simp; refine k _ _ ?_; clear k K
 refine .tt (L27 ++ [(5, .fn (.methodOf 189 "") [.agg [.d (.sl (a1.row.map cS61)), .i a1.run, .d (.sl (a1.rest.map (cL cS61)))]])]) (H5 a0) ?_
 replace h := bsome h; obtain ⟨r1, hr1, h⟩ := h
 refine .callFG (p287 N a0 a1 r1 hr1) [(1000, 1000), (25002, 25002)] [1000] [(1000, 1000), (25002, 25002)] [(1000, (.box [.d (.sl (r1.by_.Columns.map (cI .i64))), .d (.sl (r1.by_.Descending.map cB)), .ref 25002 0 r1.l.length])), (25002, (.arr 189 3 (r1.l.map cS189)))] (.tup []) (by simp) (.invoke (nm := "") meth287 ent287 rfl rfl (by simp <;> rfl)) (by simp) (by simp) (by simp) (by simp) (by simp) (by simp) (by simp) (by simp) (by simp) (by simp) (by simp) ?_
 refine .st (mk 12 [1000] (L27 ++ [(5, .fn (.methodOf 189 "") [.agg [.d (.sl (a1.row.map cS61)), .i a1.run, .d (.sl (a1.rest.map (cL cS61)))]]), (6, .tup [])]) (H5 r1)) ?_
 refine .nil ?_
 refine .region ?_
 refine .runK [] 2 fun K k => ?_; simp; refine k _ _ ?_; clear k K
 refine .tt [(7, .fn (.methodOf 184 "") [.ptr 1000 0 0]), (8, .fn (.methodOf 184 "") [.ptr 1000 0 0])] (H5 r1) ?_
 replace h := bsome h; obtain ⟨r2, hr2, h⟩ := h
 refine .callLG (d := 9) (p114 N r1 r2 hr2) (by simp) (.invoke (nm := "") meth114 ent114 rfl rfl (by simp <;> rfl)) rfl (by simp <;> rfl) ent114 (by simp <;> rfl) ?_
 refine .st (mk 12 [1000] [(7, .fn (.methodOf 184 "") [.ptr 1000 0 0]), (8, .fn (.methodOf 184 "") [.ptr 1000 0 0]), (9, .i r2)] (H5 r1)) ?_
 replace h := bsome h; obtain ⟨v3, hv3, h⟩ := h
 have hv3 := chkI_some hv3
 refine .runK [] 1 fun K k => ?_; simp [hv3]; refine k _ _ ?_; clear k K
 refine .tt [(7, .fn (.methodOf 184 "") [.ptr 1000 0 0]), (10, .i v3)] (H5 r1) ?_
 replace h := bsome h; obtain ⟨r4, hr4, h⟩ := h
 refine .callF (p135 N r1 v3 r4 hr4) [(1000, 1000), (25002, 25002)] [1000] [(1000, 1000), (25002, 25002)] [(1000, (.box [.d (.sl (r4.by_.Columns.map (cI .i64))), .d (.sl (r4.by_.Descending.map cB)), .ref 25002 0 r4.l.length])), (25002, (.arr 189 3 (r4.l.map cS189)))] (.tup []) (by simp) rfl (by simp <;> rfl) (by simp) (by simp) (by simp) (by simp) (by simp) ent135 (by simp) (by simp) (by simp) (by simp) (by simp) (by simp) ?_
 refine .st (mk 12 [1000] [(7, .fn (.methodOf 184 "") [.ptr 1000 0 0]), (10, .i v3), (11, .tup [])] (H5 r4)) ?_
 refine .nil ?_
 cases h
 exact FinF.normal (by simp) (by simp)
end Go.Proofs.YtimkkjiplioohaaGreatDoor
