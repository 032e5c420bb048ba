/- Functions of the program as functional programs; the code computes them. -/
import Derived.Test.YtimkkjiplioohaaGreatDoorRa7
namespace Go.Proofs.YtimkkjiplioohaaGreatDoor
set_option maxRecDepth 100000
set_option maxHeartbeats 4000000
open Go.Ab Go.Rp
attribute [-simp] List.all_eq_true Array.all_toList Array.all_eq_true
def d113 (N : Nat) (a0 : S187) : Option S187 :=
 (d114 N a0).bind fun r1 =>
 (quoI r1 2).bind fun v2 =>
 (chkI (v2 - 1)).bind fun v3 =>
 Option.bind (α := ((List Int) × (List Bool) × (List S189))) (
  iterN (σ := (Int × (List Int) × (List Bool) × (List S189))) (ρ := ((List Int) × (List Bool) × (List S189))) (fun ((v7,l8,l9,l10) : (Int × (List Int) × (List Bool) × (List S189))) =>
   if v7 ≥ 0 then (
    (d134 N (S187.mk (S65.mk l8 l9) l10) v7 r1).bind fun r25 =>
    (chkI (v7 - 1)).bind fun v26 =>
    some (.inl (v26,r25.1.by_.Columns,r25.1.by_.Descending,r25.1.l))
   ) else
   some (.inr (l8,l9,l10))
  ) N (v3,a0.by_.Columns,a0.by_.Descending,a0.l)
 ) fun ((l21,l22,l23) : ((List Int) × (List Bool) × (List S189))) =>
 some (S187.mk (S65.mk l21 l22) l23)
theorem p113 (N : Nat) (a0 : S187) (r : S187) (h : d113 N a0 = some r) : FunM Tryz.prog 113 [.fn (.methodOf 184 "") [.ptr 1000 0 0]] [(1000, some (.box [.si a0.by_.Columns, .sb a0.by_.Descending, .ref 25002 0 a0.l.length])), (25002, R189 a0.l)] [1000] (.tup []) ([(1000, (.box [.si r.by_.Columns, .sb r.by_.Descending, .ref 25002 0 r.l.length])), (25002, (.arr 189 3 (r.l.map cS189)))]) := by
 unfold d113 at h
 refine FunM.enter 17 [(0, .fn (.methodOf 184 "") [.ptr 1000 0 0])] Tryz.func113 rfl (of_decide_eq_true rfl) rfl rfl ?_
 refine .seqR ?_
 refine .rr 1 ?_
 refine .tt (L24) (H3 a0) ?_
 replace h := bsome h;obtain ⟨r1,hr1,h⟩ := h
 refine .callLG (d := 5) (p114 N a0 r1 hr1) (by simp) (.invoke (nm := "") meth114 ent114 rfl rfl (by simp <;> rfl)) rfl (by simp <;> rfl) ent114 (by simp <;> rfl) ?_
 refine .st (mk 17 [1000] (L24 ++ [(5,.i r1)]) (H3 a0)) ?_
 refine .rr 1 ?_
 refine .tt [(0, .fn (.methodOf 184 "") [.ptr 1000 0 0]), (2, .i r1)] (H3 a0) (.nil (.seqR ?_))
 replace h := bsome h;obtain ⟨v2,hv2,h⟩ := h
 obtain ⟨hv2a,hv2⟩ := quoI_some hv2
 replace h := csome h;obtain ⟨v3,hv3,h⟩ := h
 refine .rk 4 fun K k => ?_;simp [hv2,hv2a,hv3];refine k ?_
 refine .tt (L25 r1 v3) (H3 a0) (.nil ?_)
 refine .lastN (fun ((l21,l22,l23) : ((List Int) × (List Bool) × (List S189))) => mk 17 [1000] [] (H1 l21 l22 l23)) h ?_ ?_ <;> clear h
 ·intro o h
  refine .block ?_
  refine .iter (fun ((v7,l8,l9,l10) : (Int × (List Int) × (List Bool) × (List S189))) => mk 17 [1000] (L25 r1 v7) (H1 l8 l9 l10)) h Sub.tt ?_
  clear h
  rintro ⟨v7,l8,l9,l10⟩ x h
  dsimp only at h ⊢
  refine .seq (.seqR ?_)
  refine .rr 2 ?_
  refine .tt (L25 r1 v7 ++ [(10,.b (decide (v7 ≥ 0)))]) (H1 l8 l9 l10) (.nil ?_)
  replace h := isome h;rcases h with ⟨c24,h⟩ | ⟨c24,h⟩
  ·have c24_ : decide (v7 ≥ 0) = true := decide_eq_true c24
   refine .condT rfl c24_ ?_
   refine .skip (thenQ_normal (.seq (.block (.region ?_))))
   refine .rr 3 ?_
   refine .tt (L25 r1 v7 ++ [(13, .fn (.methodOf 184 "") [.ptr 1000 0 0]), (14, .i v7), (15, .i r1)]) (H1 l8 l9 l10) ?_
   replace h := bsome h;obtain ⟨r25,hr25,h⟩ := h
   refine .callF (p134 N (S187.mk (S65.mk l8 l9) l10) v7 r1 r25 hr25) [(1000,1000),(25002,25002)] [1000] [(1000,1000),(25002,25002)] [(1000,(.box [.si r25.1.by_.Columns,.sb r25.1.by_.Descending,.ref 25002 0 r25.1.l.length])),(25002,(.arr 189 3 (r25.1.l.map cS189)))] (.b r25.2) (by simp) rfl (by simp <;> rfl) (by simp) (by simp) (by simp) (by simp) (by simp) ent134 (by simp) (by simp) (by simp) (by simp) (by simp) (by simp) ?_
   refine .st (mk 17 [1000] (L25 r1 v7 ++ [(13, .fn (.methodOf 184 "") [.ptr 1000 0 0]), (14, .i v7), (15, .i r1), (16, .b r25.2)]) (H3 r25.1)) (.nil (blockQ.normal (thenQ_normal (.region ?_))))
   replace h := csome h;obtain ⟨v26,hv26,h⟩ := h
   refine .rk 3 fun K k => ?_;simp [hv26];refine k ?_
   refine .tt (L25 r1 v26) (H3 r25.1) (.nil ?_)
   cases h
   refine PostI.next ?_
   exact Sub.tt
  have c24_ : decide (v7 ≥ 0) = false := decide_eq_false c24
  refine .condF rfl c24_ ?_
  refine .exit ?_
  cases h
  refine thenQ_ps ?_
  refine PostI.os ?_
  rintro rfl
  refine blockQ.hit (PostN.next ?_)
  exact Sub.tt
 rintro ⟨l21,l22,l23⟩ h
 dsimp only at h ⊢
 cases h
 exact FinF.normal (by simp) (by simp)
def d115 (N : Nat) (a0 : S187) : Option (S187 × S189) :=
 (d114 N a0).bind fun r1 =>
 (chkI (r1 - 1)).bind fun v2 =>
 (d288 N a0 0 v2).bind fun r3 =>
 (d134 N r3 0 v2).bind fun r4 =>
 (d286 N r4.1).bind fun r5 =>
 some (r5.1,r5.2)
theorem p115 (N : Nat) (a0 : S187) (r : (S187 × S189)) (h : d115 N a0 = some r) : FunM Tryz.prog 115 [.fn (.methodOf 184 "") [.ptr 1000 0 0]] [(1000, some (.box [.si a0.by_.Columns, .sb a0.by_.Descending, .ref 25002 0 a0.l.length])), (25002, R189 a0.l)] [1000] (.fn (.methodOf 189 "") [.agg [.s61 r.2.row, .i r.2.run, .ls61 r.2.rest]]) ([(1000, (.box [.si r.1.by_.Columns, .sb r.1.by_.Descending, .ref 25002 0 r.1.l.length])), (25002, (.arr 189 3 (r.1.l.map cS189)))]) := by
 unfold d115 at h
 refine FunM.enter 15 [(0, .fn (.methodOf 184 "") [.ptr 1000 0 0])] Tryz.func115 rfl (of_decide_eq_true rfl) rfl rfl ?_
 refine .seqR ?_
 refine .rr 1 ?_
 refine .tt [(0, .fn (.methodOf 184 "") [.ptr 1000 0 0])] (H3 a0) (.nil (.seqR ?_))
 refine .rr 1 ?_
 refine .tt (L24) (H3 a0) ?_
 replace h := bsome h;obtain ⟨r1,hr1,h⟩ := h
 refine .callLG (d := 5) (p114 N a0 r1 hr1) (by simp) (.invoke (nm := "") meth114 ent114 rfl rfl (by simp <;> rfl)) rfl (by simp <;> rfl) ent114 (by simp <;> rfl) ?_
 refine .st (mk 15 [1000] (L24 ++ [(5,.i r1)]) (H3 a0)) ?_
 replace h := csome h;obtain ⟨v2,hv2,h⟩ := h
 refine .rk 2 fun K k => ?_;simp [hv2];refine k ?_
 refine .tt [(0, .fn (.methodOf 184 "") [.ptr 1000 0 0]), (3, .i v2)] (H3 a0) (.nil (.seqR ?_))
 refine .rr 2 ?_
 refine .tt [(0, .fn (.methodOf 184 "") [.ptr 1000 0 0]), (3, .i v2), (7, .fn (.methodOf 184 "") [.ptr 1000 0 0]), (8, .i v2)] (H3 a0) ?_
 replace h := bsome h;obtain ⟨r3,hr3,h⟩ := h
 refine .callFG (p288 N a0 0 v2 r3 hr3) [(1000, 1000), (25002, 25002)] [1000] [(1000, 1000), (25002, 25002)] [(1000, (.box [.si r3.by_.Columns, .sb r3.by_.Descending, .ref 25002 0 r3.l.length])), (25002, (.arr 189 3 (r3.l.map cS189)))] (.tup []) (by simp) (.invoke (nm := "") meth288 ent288 rfl rfl (by simp <;> rfl)) (by simp) (by simp) (by simp) (by simp) (by simp) (by simp) (by simp) (by simp) (by simp) (by simp) (by simp) ?_
 refine .st (mk 15 [1000] [(0, .fn (.methodOf 184 "") [.ptr 1000 0 0]), (3, .i v2), (7, .fn (.methodOf 184 "") [.ptr 1000 0 0]), (8, .i v2), (9, .tup [])] (H3 r3)) (.nil (.seqR ?_))
 refine .rr 2 ?_
 refine .tt [(0, .fn (.methodOf 184 "") [.ptr 1000 0 0]), (10, .fn (.methodOf 184 "") [.ptr 1000 0 0]), (11, .i v2)] (H3 r3) ?_
 replace h := bsome h;obtain ⟨r4,hr4,h⟩ := h
 refine .callF (p134 N r3 0 v2 r4 hr4) [(1000,1000),(25002,25002)] [1000] [(1000,1000),(25002,25002)] [(1000,(.box [.si r4.1.by_.Columns,.sb r4.1.by_.Descending,.ref 25002 0 r4.1.l.length])),(25002,(.arr 189 3 (r4.1.l.map cS189)))] (.d (.lit (.bool r4.2))) (by simp) rfl (by simp <;> rfl) (by simp) (by simp) (by simp) (by simp) (by simp) ent134 (by simp) (by simp) (by simp) (by simp) (by simp) (by simp) ?_
 refine .st (mk 15 [1000] [(0, .fn (.methodOf 184 "") [.ptr 1000 0 0]), (10, .fn (.methodOf 184 "") [.ptr 1000 0 0]), (11, .i v2), (12, .b r4.2)] (H3 r4.1)) (.nil (.seqR ?_))
 refine .rr 1 ?_
 refine .tt [(13, .fn (.methodOf 184 "") [.ptr 1000 0 0])] (H3 r4.1) ?_
 replace h := bsome h;obtain ⟨r5,hr5,h⟩ := h
 refine .callFG (p286 N r4.1 r5 hr5) [(1000, 1000), (25002, 25002)] [1000] [(1000, 1000), (25002, 25002)] [(1000, (.box [.si r5.1.by_.Columns, .sb r5.1.by_.Descending, .ref 25002 0 r5.1.l.length])), (25002, (.arr 189 3 (r5.1.l.map cS189)))] (.fn (.methodOf 189 "") [.agg [.s61 r5.2.row, .d (.lit (.int .i64 r5.2.run)), .ls61 r5.2.rest]]) (by simp) (.invoke (nm := "") meth286 ent286 rfl rfl (by simp <;> rfl)) (by simp) (by simp) (by simp) (by simp) (by simp) (by simp) (by simp) (by simp) (by simp) (by simp) (by simp) ?_
 refine .st (mk 15 [1000] [(13, .fn (.methodOf 184 "") [.ptr 1000 0 0]), (14, .fn (.methodOf 189 "") [.agg [.s61 r5.2.row, .i r5.2.run, .ls61 r5.2.rest]])] (H3 r5.1)) ?_
 refine .rr 1 ?_
 refine .tt [(2, .fn (.methodOf 189 "") [.agg [.s61 r5.2.row, .i r5.2.run, .ls61 r5.2.rest]])] (H3 r5.1) (.nil (.ret ?_))
 cases h
 exact FinF.ret (by simp) (by simp)
def d135 (N : Nat) (a0 : S187) (a1 : Int) : Option S187 :=
 Option.bind (α := ((List Int) × (List Bool) × (List S189))) (
  iterN (σ := (Int × (List Int) × (List Bool) × (List S189))) (ρ := ((List Int) × (List Bool) × (List S189))) (fun ((v10,l11,l12,l13) : (Int × (List Int) × (List Bool) × (List S189))) =>
   (chkI (v10 - 1)).bind fun v39 =>
   (quoI v39 2).bind fun v40 =>
   Option.bind (α := Bool) (
    if (v40 == v10) then (
     some true
    ) else
    (d285 N (S187.mk (S65.mk l11 l12) l13) v10 v40).bind fun r45 =>
    some (!r45)
   ) fun (v43 : Bool) =>
   if v43 = true then (
    some (.inr (l11,l12,l13))
   ) else
   (d288 N (S187.mk (S65.mk l11 l12) l13) v40 v10).bind fun r47 =>
   some (.inl (v40,r47.by_.Columns,r47.by_.Descending,r47.l))
  ) N (a1,a0.by_.Columns,a0.by_.Descending,a0.l)
 ) fun ((l36,l37,l38) : ((List Int) × (List Bool) × (List S189))) =>
 some (S187.mk (S65.mk l36 l37) l38)
theorem p135 (N : Nat) (a0 : S187) (a1 : Int) (r : S187) (h : d135 N a0 a1 = some r) : FunM Tryz.prog 135 [.fn (.methodOf 184 "") [.ptr 1000 0 0], .i a1] [(1000, some (.box [.si a0.by_.Columns, .sb a0.by_.Descending, .ref 25002 0 a0.l.length])), (25002, R189 a0.l)] [1000] (.tup []) ([(1000, (.box [.si r.by_.Columns, .sb r.by_.Descending, .ref 25002 0 r.l.length])), (25002, (.arr 189 3 (r.l.map cS189)))]) := by
 unfold d135 at h
 refine FunM.enter 23 [(0, .fn (.methodOf 184 "") [.ptr 1000 0 0]), (1, .i a1)] Tryz.func135 rfl (of_decide_eq_true rfl) rfl rfl ?_
 refine .lastN (fun ((l36,l37,l38) : ((List Int) × (List Bool) × (List S189))) => mk 23 [1000] [] (H1 l36 l37 l38)) h ?_ ?_ <;> clear h
 ·intro o h
  refine .block ?_
  refine .iter (fun ((v10, l11, l12, l13) : (Int × (List Int) × (List Bool) × (List S189))) => mk 23 [1000] [(0, .fn (.methodOf 184 "") [.ptr 1000 0 0]), (1, .i v10)] (H1 l11 l12 l13)) h Sub.tt ?_
  clear h
  rintro ⟨v10,l11,l12,l13⟩ x h
  dsimp only at h ⊢
  refine .block (.seqR ?_)
  replace h := csome h;obtain ⟨v39,hv39,h⟩ := h
  replace h := bsome h;obtain ⟨v40,hv40,h⟩ := h
  obtain ⟨hv40a,hv40⟩ := quoI_some hv40
  refine .rk 4 fun K k => ?_;simp [hv39,hv40,hv40a];refine k ?_
  refine .tt (L26 v10 v40) (H1 l11 l12 l13) (.nil (.seq ?_))
  replace h := bsome h;obtain ⟨v43,hj,h⟩ := h
  refine .cutR (mk 23 [1000] (L26 v10 v40 ++ [(17,.b v43)]) (H1 l11 l12 l13)) ?_ ?_
  ·clear h;have h := hj;clear hj
   refine .rr 4 ?_
   refine .tt (L26 v10 v40 ++ [(11,.b (v40 == v10))]) (H1 l11 l12 l13) ?_
   replace h := isome h;rcases h with ⟨c44,h⟩ | ⟨c44,h⟩
   ·have c44_ : (v40 == v10) = true := c44
    refine .sub (.bool 11 rfl c44_) ?_
    refine .st (mk 23 [1000] (L26 v10 v40 ++ [(11,.b true)]) (H1 l11 l12 l13)) ?_
    refine .rr 6 ?_
    refine .tt (L26 v10 v40 ++ [(12,.tup []),(13,.tup []),(14,.tup []),(15,.tup []),(16,.tup []),(17,.b true)]) (H1 l11 l12 l13) ?_
    cases h
    exact .nil .tt
   have c44_ : (v40 == v10) = false := Bool.eq_false_iff.2 c44
   refine .sub (.bool 11 rfl c44_) ?_
   refine .st (mk 23 [1000] (L27 v10 v40) (H1 l11 l12 l13)) ?_
   refine .rr 3 ?_
   refine .tt (L27 v10 v40 ++ [(12, .fn (.methodOf 184 "") [.ptr 1000 0 0]), (13, .i v10), (14, .i v40)]) (H1 l11 l12 l13) ?_
   replace h := bsome h;obtain ⟨r45,hr45,h⟩ := h
   refine .callLG (d := 15) (p285 N (S187.mk (S65.mk l11 l12) l13) v10 v40 r45 hr45) (by simp) (.invoke (nm := "") meth285 ent285 rfl rfl (by simp <;> rfl)) rfl (by simp <;> rfl) ent285 (by simp <;> rfl) ?_
   refine .st (mk 23 [1000] (L27 v10 v40 ++ [(12, .fn (.methodOf 184 "") [.ptr 1000 0 0]), (13, .i v10), (14, .i v40), (15, .b r45)]) (H1 l11 l12 l13)) ?_
   refine .rr 2 ?_
   refine .tt (L26 v10 v40 ++ [(12, .fn (.methodOf 184 "") [.ptr 1000 0 0]), (13, .i v10), (14, .i v40), (15, .b r45), (16, .b (!r45)), (17, .b (!r45))]) (H1 l11 l12 l13) ?_
   cases h
   exact .nil .tt
  clear hj
  replace h := isome h;rcases h with ⟨c46,h⟩ | ⟨c46,h⟩
  ·have c46_ : v43 = true := c46
   refine .condT rfl c46_ ?_
   refine .exit ?_
   cases h
   refine thenQ_ps ?_
   refine blockQ.pass (by decide) ?_
   refine PostI.os ?_
   rintro rfl
   refine blockQ.hit (PostN.next ?_)
   exact Sub.tt
  have c46_ : v43 = false := Bool.eq_false_iff.2 c46
  refine .condF rfl c46_ ?_
  refine .skip (thenQ_normal (.seqR ?_))
  refine .rr 3 ?_
  refine .tt [(0, .fn (.methodOf 184 "") [.ptr 1000 0 0]), (4, .i v40), (18, .fn (.methodOf 184 "") [.ptr 1000 0 0]), (19, .i v40), (20, .i v10)] (H1 l11 l12 l13) ?_
  replace h := bsome h;obtain ⟨r47,hr47,h⟩ := h
  refine .callFG (p288 N (S187.mk (S65.mk l11 l12) l13) v40 v10 r47 hr47) [(1000, 1000), (25002, 25002)] [1000] [(1000, 1000), (25002, 25002)] [(1000, (.box [.si r47.by_.Columns, .sb r47.by_.Descending, .ref 25002 0 r47.l.length])), (25002, (.arr 189 3 (r47.l.map cS189)))] (.tup []) (by simp) (.invoke (nm := "") meth288 ent288 rfl rfl (by simp <;> rfl)) (by simp) (by simp) (by simp) (by simp) (by simp) (by simp) (by simp) (by simp) (by simp) (by simp) (by simp) ?_
  refine .st (mk 23 [1000] [(0, .fn (.methodOf 184 "") [.ptr 1000 0 0]), (4, .i v40), (18, .fn (.methodOf 184 "") [.ptr 1000 0 0]), (19, .i v40), (20, .i v10), (21, .tup [])] (H3 r47)) (.nil (.region ?_))
  refine .rr 2 ?_
  refine .tt [(0, .fn (.methodOf 184 "") [.ptr 1000 0 0]), (1, .i v40)] (H3 r47) (.nil ?_)
  cases h
  refine blockQ.normal (PostI.next ?_)
  exact Sub.tt
 rintro ⟨l36,l37,l38⟩ h
 dsimp only at h ⊢
 cases h
 exact FinF.normal (by simp) (by simp)
def d116 (N : Nat) (a0 : S187) (a1 : S189) : Option S187 :=
 (d287 N a0 a1).bind fun r1 =>
 (d114 N r1).bind fun r2 =>
 (chkI (r2 - 1)).bind fun v3 =>
 (d135 N r1 v3).bind fun r4 =>
 some r4
theorem p116 (N : Nat) (a0 : S187) (a1 : S189) (r : S187) (h : d116 N a0 a1 = some r) : FunM Tryz.prog 116 [.fn (.methodOf 184 "") [.ptr 1000 0 0], .fn (.methodOf 189 "") [.agg [.s61 a1.row, .i a1.run, .ls61 a1.rest]]] [(1000, some (.box [.si a0.by_.Columns, .sb a0.by_.Descending, .ref 25002 0 a0.l.length])), (25002, R189 a0.l)] [1000] (.tup []) ([(1000, (.box [.si r.by_.Columns, .sb r.by_.Descending, .ref 25002 0 r.l.length])), (25002, (.arr 189 3 (r.l.map cS189)))]) := by
 unfold d116 at h
 refine FunM.enter 12 [(0, .fn (.methodOf 184 "") [.ptr 1000 0 0]), (1, .fn (.methodOf 189 "") [.agg [.s61 a1.row, .i a1.run, .ls61 a1.rest]])] Tryz.func116 rfl (of_decide_eq_true rfl) rfl rfl ?_
 refine .seqR ?_
 refine .rr 2 ?_
 refine .tt (L24 ++ [(5, .fn (.methodOf 189 "") [.agg [.s61 a1.row, .i a1.run, .ls61 a1.rest]])]) (H3 a0) ?_
 replace h := bsome h;obtain ⟨r1,hr1,h⟩ := h
 refine .callFG (p287 N a0 a1 r1 hr1) [(1000, 1000), (25002, 25002)] [1000] [(1000, 1000), (25002, 25002)] [(1000, (.box [.si r1.by_.Columns, .sb r1.by_.Descending, .ref 25002 0 r1.l.length])), (25002, (.arr 189 3 (r1.l.map cS189)))] (.tup []) (by simp) (.invoke (nm := "") meth287 ent287 rfl rfl (by simp <;> rfl)) (by simp) (by simp) (by simp) (by simp) (by simp) (by simp) (by simp) (by simp) (by simp) (by simp) (by simp) ?_
 refine .st (mk 12 [1000] (L24 ++ [(5, .fn (.methodOf 189 "") [.agg [.s61 a1.row, .i a1.run, .ls61 a1.rest]]), (6, .tup [])]) (H3 r1)) (.nil (.region ?_))
 refine .rr 2 ?_
 refine .tt [(7, .fn (.methodOf 184 "") [.ptr 1000 0 0]), (8, .fn (.methodOf 184 "") [.ptr 1000 0 0])] (H3 r1) ?_
 replace h := bsome h;obtain ⟨r2,hr2,h⟩ := h
 refine .callLG (d := 9) (p114 N r1 r2 hr2) (by simp) (.invoke (nm := "") meth114 ent114 rfl rfl (by simp <;> rfl)) rfl (by simp <;> rfl) ent114 (by simp <;> rfl) ?_
 refine .st (mk 12 [1000] [(7, .fn (.methodOf 184 "") [.ptr 1000 0 0]), (8, .fn (.methodOf 184 "") [.ptr 1000 0 0]), (9, .i r2)] (H3 r1)) ?_
 replace h := csome h;obtain ⟨v3,hv3,h⟩ := h
 refine .rk 1 fun K k => ?_;simp [hv3];refine k ?_
 refine .tt [(7, .fn (.methodOf 184 "") [.ptr 1000 0 0]), (10, .i v3)] (H3 r1) ?_
 replace h := bsome h;obtain ⟨r4,hr4,h⟩ := h
 refine .callF (p135 N r1 v3 r4 hr4) [(1000,1000),(25002,25002)] [1000] [(1000,1000),(25002,25002)] [(1000,(.box [.si r4.by_.Columns,.sb r4.by_.Descending,.ref 25002 0 r4.l.length])),(25002,(.arr 189 3 (r4.l.map cS189)))] (.tup []) (by simp) rfl (by simp <;> rfl) (by simp) (by simp) (by simp) (by simp) (by simp) ent135 (by simp) (by simp) (by simp) (by simp) (by simp) (by simp) ?_
 refine .st (mk 12 [1000] [(7, .fn (.methodOf 184 "") [.ptr 1000 0 0]), (10, .i v3), (11, .tup [])] (H3 r4)) (.nil ?_)
 cases h
 exact FinF.normal (by simp) (by simp)
end Go.Proofs.YtimkkjiplioohaaGreatDoor
