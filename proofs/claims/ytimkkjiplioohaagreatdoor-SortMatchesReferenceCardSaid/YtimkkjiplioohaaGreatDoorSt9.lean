/- Functions of the program as functional programs; the code computes them. -/
import Derived.Test.YtimkkjiplioohaaGreatDoorSt8
namespace Go.Proofs.YtimkkjiplioohaaGreatDoor
open Go.Ab Go.Rp
attribute [-simp] List.all_eq_true Array.all_toList Array.all_eq_true

/-- stemma/extsort.Sort -/
def d40 (N : Nat) (a0 : (List (List S61))) (a1 : S65) (a2 : Int) : Option ((List (List S61)) × Int × Int) :=
 (d84 N a0 a1 a2).bind fun r1 =>
 if (r1.2 != 0) then (
  some (([] : List (List S61)), 0, r1.2)
 ) else
 Option.bind (α := ((List (List (List S61))) × Int)) (
  iterN (σ := ((List (List (List S61))) × Int)) (ρ := ((List (List (List S61))) × Int)) (fun ((l15, v16) : ((List (List (List S61))) × Int)) =>
   if (l15.length : Int) > 1 then (
    (posG a2).bind fun _ =>
    bindO (β := List (List (List S61))) (ρ := (((List (List (List S61))) × Int) ⊕ ((List (List (List S61))) × Int))) (
     (chunksO a2 l15).bind fun cs => rangeL (α := List (List (List S61))) (β := List (List (List S61))) (ρ := (((List (List (List S61))) × Int) ⊕ ((List (List (List S61))) × Int))) (fun (x47 : List (List (List S61))) => fun (l50 : List (List (List S61))) =>
      (d86 N x47 a1).bind fun r54 =>
      (appL 24 l50 [r54]).bind fun _l55 =>
      some (.go (l50 ++ [r54]))
     ) cs ([] : List (List (List S61)))
    ) fun (l50 : List (List (List S61))) =>
    (chkI (v16 + 1)).bind fun v56 =>
    some (.inl (l50, v56))
   ) else
   some (.inr (l15, v16))
  ) N (r1.1, 0)
 ) fun ((l43, v44) : ((List (List (List S61))) × Int)) =>
 Option.bind (α := List (List S61)) (
  iterN (σ := ((List (List S61)) × Int)) (ρ := List (List S61)) (fun ((l88, v89) : ((List (List S61)) × Int)) =>
   if v89 < (l43.length : Int) then (
    (idx l43 v89).bind fun x158 =>
    Option.bind (α := List (List S61)) (
     iterN (σ := ((List (List S61)) × Int)) (ρ := List (List S61)) (fun ((l165, v166) : ((List (List S61)) × Int)) =>
      if v166 < (x158.length : Int) then (
       (idx x158 v166).bind fun x183 =>
       (d39 N x183).bind fun r185 =>
       (appL 24 l165 [r185]).bind fun _l186 =>
       (chkI (v166 + 1)).bind fun v187 =>
       some (.inl ((l165 ++ [r185]), v187))
      ) else
      some (.inr l165)
     ) N (l88, 0)
    ) fun (l181 : List (List S61)) =>
    (chkI (v89 + 1)).bind fun v188 =>
    some (.inl (l181, v188))
   ) else
   some (.inr l88)
  ) N (([] : List (List S61)), 0)
 ) fun (l156 : List (List S61)) =>
 some (l156, v44, 0)
set_option maxRecDepth 100000 in
set_option maxHeartbeats 4000000 in
theorem p40 (N : Nat) (a0 : (List (List S61))) (a1 : S65) (a2 : Int) (r : ((List (List S61)) × Int × Int)) (h : d40 N a0 a1 a2 = some r) : FunC Tryz.prog 40 [.d (.sl (a0.map (cL cS61))), .agg [.d (.sl (a1.Columns.map (cI .i64))), .d (.sl (a1.Descending.map cB))], .i a2] (.tup [.d (.sl (r.1.map (cL cS61))), .i r.2.1, .i r.2.2]) := by
 unfold d40 at h
 refine FunC.enter 66 [(0, .d (.sl (a0.map (cL cS61)))), (1, .agg [.d (.sl (a1.Columns.map (cI .i64))), .d (.sl (a1.Descending.map cB))]), (2, .i a2)] (by simp) Tryz.func40 rfl (of_decide_eq_true rfl) rfl rfl ?_
 refine .seqR ?_
 refine .runK [] 4 fun K k => ?_; simp; refine k _ _ ?_; clear k K
 refine .tt (L11 a0 a2) (H2 a1) ?_
 refine .nil ?_
 refine .seqR ?_
 refine .runK [] 3 fun K k => ?_; simp; refine k _ _ ?_; clear k K
 refine .tt [(2, .i a2), (4, .ptr 4 0 0), (20, .d (.sl (a0.map (cL cS61)))), (21, .agg [.d (.sl (a1.Columns.map (cI .i64))), .d (.sl (a1.Descending.map cB))]), (22, .i a2)] (H2 a1) ?_
 replace h := bsome h; obtain ⟨r1, hr1, h⟩ := h
 refine .callC (d := 23) (p84 N a0 a1 a2 r1 hr1) (by simp) rfl rfl (by simp <;> rfl) (by simp <;> rfl) ent84 (by simp) (.inl ⟨by simp, by simp⟩) ?_
 refine .st (mk 66 [] [(2, .i a2), (4, .ptr 4 0 0), (20, .d (.sl (a0.map (cL cS61)))), (21, .agg [.d (.sl (a1.Columns.map (cI .i64))), .d (.sl (a1.Descending.map cB))]), (22, .i a2), (23, .tup [.d (.sl (r1.1.map (cL (cL cS61)))), .i r1.2])] (H2 a1)) ?_
 refine .runK [] 5 fun K k => ?_; simp; refine k _ _ ?_; clear k K
 refine .tt (L33 a2 r1.1 r1.2) (H2 a1) ?_
 refine .nil ?_
 refine .seq ?_
 refine .seqR ?_
 refine .runK [] 2 fun K k => ?_; simp; refine k _ _ ?_; clear k K
 refine .tt (L33 a2 r1.1 r1.2 ++ [(27, .b (r1.2 != 0))]) (H2 a1) ?_
 refine .nil ?_
 replace h := isome h; rcases h with ⟨c2, h⟩ | ⟨c2, h⟩
 ·have c2_ : (r1.2 != 0) = true := c2
  refine .condT (b := (r1.2 != 0)) rfl c2_ ?_
  refine .sub (.bool 27 (b := (r1.2 != 0)) rfl c2_) ?_
  refine .st (mk 66 [] (L33 a2 r1.1 r1.2 ++ [(27, .b true)]) (H2 a1)) ?_
  refine .seqR ?_
  refine .runK [] 4 fun K k => ?_; simp; refine k _ _ ?_; clear k K
  refine .tt [(6, .d (.lit (.slice none 0 0))), (7, .i 0), (8, .i r1.2)] [] ?_
  refine .nil ?_
  refine .sub (.wk 6 rfl) ?_
  refine .st (mk 66 [] [(6, .d (.sl (([] : List (List S61)).map (cL cS61)))), (7, .i 0), (8, .i r1.2)] []) ?_
  refine .ret ?_
  cases h
  refine thenQ_pass (by simp) ?_
  exact FinC.ret (by simp) (by simp)
 have c2_ : (r1.2 != 0) = false := Bool.eq_false_iff.2 c2
 refine .condF (b := (r1.2 != 0)) rfl c2_ ?_
 refine .sub (.bool 27 (b := (r1.2 != 0)) rfl c2_) ?_
 refine .st (mk 66 [] (L33 a2 r1.1 r1.2 ++ [(27, .b false)]) (H2 a1)) ?_
 refine .skip ?_
 refine thenQ_normal ?_
 refine .seqR ?_
 refine .runK [] 1 fun K k => ?_; simp; refine k _ _ ?_; clear k K
 refine .tt [(2, .i a2), (4, .ptr 4 0 0), (9, .d (.sl (r1.1.map (cL (cL cS61))))), (11, .i 0)] (H2 a1) ?_
 refine .nil ?_
 refine .seqN (fun ((l43, v44) : ((List (List (List S61))) × Int)) => mk 66 [] [(9, .d (.sl (l43.map (cL (cL cS61))))), (11, .i v44)] []) h ?_ ?_ <;> clear h
 ·intro o h
  refine .block ?_
  refine .iter (fun ((l15, v16) : ((List (List (List S61))) × Int)) => mk 66 [] (L34 a2 l15 v16) (H2 a1)) h Sub.tt ?_
  clear h
  rintro ⟨l15, v16⟩ x h
  dsimp only at h ⊢
  refine .seq ?_
  refine .seqR ?_
  refine .runK [] 3 fun K k => ?_; simp; refine k _ _ ?_; clear k K
  refine .tt (L34 a2 l15 v16 ++ [(31, .b (decide ((l15.length : Int) > 1)))]) (H2 a1) ?_
  refine .nil ?_
  replace h := isome h; rcases h with ⟨c45, h⟩ | ⟨c45, h⟩
  ·have c45_ : decide ((l15.length : Int) > 1) = true := decide_eq_true c45
   refine .condT (b := decide ((l15.length : Int) > 1)) rfl c45_ ?_
   refine .sub (.bool 31 (b := decide ((l15.length : Int) > 1)) rfl c45_) ?_
   refine .st (mk 66 [] (L34 a2 l15 v16 ++ [(31, .b true)]) (H2 a1)) ?_
   refine .skip ?_
   refine thenQ_normal ?_
   refine .block ?_
   refine .seqR ?_
   refine .runK [] 1 fun K k => ?_; simp; refine k _ _ ?_; clear k K
   refine .tt (L34 a2 l15 v16 ++ [(12, .ptr 12 0 0)]) (H20 a1) ?_
   refine .nil ?_
   refine .seq ?_
   refine .seqR ?_
   refine .runK [] 2 fun K k => ?_; simp; refine k _ _ ?_; clear k K
   refine .tt [(2, .i a2), (4, .ptr 4 0 0), (11, .i v16), (12, .ptr 12 0 0), (32, .d (.sl (l15.map (cL (cL cS61))))), (33, .i a2)] (H20 a1) ?_
   replace h := bsome h; obtain ⟨u46, hu46, h⟩ := h
   refine .callF (pch85 (l15.map (cL (cL cS61))) a2 (posG_some hu46)) [] [] [(2, 34), (3, 800034)] [(34, .box [.d (.sl (l15.map (cL (cL cS61))))]), (800034, .box [.d (.lit (.int .i64 a2))])] (.fn (.func 112) [.ptr 34 0 0, .ptr 800034 0 0]) (by simp) rfl (by simp <;> rfl) (by simp) (by simp) (by simp) (by simp) (by simp) ent85 (by simp) (by simp) (by simp) (by simp) (by simp) (by simp) ?_
   refine .st (mk 66 [] [(2, .i a2), (4, .ptr 4 0 0), (11, .i v16), (12, .ptr 12 0 0), (32, .d (.sl (l15.map (cL (cL cS61))))), (33, .i a2), (34, .fn (.func 112) [.ptr 34 0 0, .ptr 800034 0 0])] [(4, some (.box [.d (.sl (a1.Columns.map (cI .i64))), .d (.sl (a1.Descending.map cB))])), (12, some (.box [.d (.lit (.slice none 0 0))])), (34, some (.box [.d (.sl (l15.map (cL (cL cS61))))])), (800034, some (.box [.i a2]))]) ?_
   refine .nil ?_
   refine .block ?_
   refine .lastJ (fun b => mk 66 [] [(2, .i a2), (4, .ptr 4 0 0), (11, .i v16), (12, .ptr 12 0 0), (34, .fn (.func 112) [.ptr 34 0 0, .ptr 800034 0 0])] ((fun (b : List (List (List S61))) => [(4, some (.box [.d (.sl (a1.Columns.map (cI .i64))), .d (.sl (a1.Descending.map cB))])), (12, some (.box [.ref 41 0 b.length])), (34, some (.box [.d (.sl (l15.map (cL (cL cS61))))])), (41, R48 b), (800034, some (.box [.i a2]))]) b)) h ?_ ?_ <;> clear h
   ·intro o h
    refine .chunk (nt := 66) (rts := []) (l := [(2, .d (.lit (.int .i64 a2))), (4, .ptr 4 0 0), (11, .d (.lit (.int .i64 v16))), (12, .ptr 12 0 0), (34, .fn (.func 112) [.ptr 34 0 0, .ptr 800034 0 0])]) (c := (cL (cL cS61))) (xs := l15) (B := 34) (B2 := 800034) (v := a2) (fun (b : List (List (List S61))) => [(4, some (.box [.d (.sl (a1.Columns.map (cI .i64))), .d (.sl (a1.Descending.map cB))])), (12, some (.box [.ref 41 0 b.length])), (34, some (.box [.d (.sl (l15.map (cL (cL cS61))))])), (41, some (.arr 48 1 (b.map (cL (cL cS61))))), (800034, some (.box [.d (.lit (.int .i64 a2))]))]) [4, 12, 34, 800034] cc112 ent112 (Sub.trans (Sub.nilOwnBox (bid := 12) (j := 0) (id := 41) (T := 48) (n := 1) rfl rfl (by decide) rfl (by decide)) (by simp; exact Sub.tt)) rfl (by intros; rfl) (by intros; rfl) (fun _ => rfl) (by simp) (by simp [V.has] <;> omega) h ?_
    clear h
    rintro l50 x47 o' h
    try dsimp only at h ⊢
    refine .st (mk 66 [4, 12, 34, 800034] [(4, .ptr 4 0 0), (12, .ptr 12 0 0), (35, .d (.sl (x47.map (cL (cL cS61)))))] (H21 a1 l50 l15 a2)) ?_
    refine .region ?_
    refine .runK [] 1 fun K k => ?_; simp; refine k _ _ ?_; clear k K
    refine .tt [(4, .ptr 4 0 0), (12, .ptr 12 0 0), (13, .d (.sl (x47.map (cL (cL cS61)))))] (H21 a1 l50 l15 a2) ?_
    refine .nil ?_
    refine thenQ_normal ?_
    refine .block ?_
    replace h := bsome h; obtain ⟨r54, hr54, h⟩ := h
    replace h := bsome h; obtain ⟨l55, hl55, h⟩ := h
    obtain ⟨hl55a, hl55⟩ := appL_some hl55
    subst hl55
    try simp only [List.length_cons, List.length_nil, Nat.zero_add] at hl55a
    refine .lastAnyS [[], [], [], [1, 2], [1, 2, 3], [0, 1, 2, 3, 4], [0, 1, 2, 3, 4, 5]] (fun (b : Nat → Bool) => mk 66 [4, 12, 34, 800034] [(4, .ptr 4 0 0), (12, .ptr 12 0 0), (13, .d (.sl (x47.map (cL (cL cS61))))), (36, (if b 5 then .junk else (if b 0 then .ref 41 0 l50.length else .junk))), (37, (if b 1 then .d (.sl (x47.map (cL (cL cS61)))) else .junk)), (38, (if b 2 then .agg [.d (.sl (a1.Columns.map (cI .i64))), .d (.sl (a1.Descending.map cB))] else .junk)), (39, (if b 3 then .d (.sl (r54.map (cL cS61))) else .junk)), (40, (if b 4 then .d (.sl ([r54].map (cL (cL cS61)))) else .junk)), (41, (if b 5 then .ref 41 0 ((l50 ++ [r54]).length) else .junk))] [(4, some (.box [.d (.sl (a1.Columns.map (cI .i64))), .d (.sl (a1.Descending.map cB))])), (12, (if b 6 then some (.box [.ref 41 0 ((l50 ++ [r54]).length)]) else (if b 5 then some (.box [.hole]) else some (.box [.ref 41 0 l50.length])))), (34, some (.box [.d (.sl (l15.map (cL (cL cS61))))])), (41, (if b 5 then R48 (l50 ++ [r54]) else R48 l50)), (800034, some (.box [.i a2]))]) (mk 66 [4, 12, 34, 800034] [] [(4, some (.box [.d (.sl (a1.Columns.map (cI .i64))), .d (.sl (a1.Descending.map cB))])), (12, some (.box [.ref 41 0 ((l50 ++ [r54]).length)])), (34, some (.box [.d (.sl (l15.map (cL (cL cS61))))])), (41, R48 (l50 ++ [r54])), (800034, some (.box [.i a2]))]) (by kernel_rfl) (by kernel_rfl) Sub.tt (Steps.cons ?_ (Steps.cons ?_ (Steps.cons ?_ (Steps.cons ?_ (Steps.cons ?_ (Steps.cons ?_ (Steps.cons ?_ (Steps.nil)))))))) ?_ ?_
    iterate 3
     ·intro b h0 ha hd
      have T := fct h0 ha hd; simp at T
      refine .runK [40] 1 fun K k => ?_; simp [T]; refine k _ _ ?_; clear k K
      exact .nil (.table (by simp [T]) (by simp [T]))
    ·intro b h0 ha hd
     have T := fct h0 ha hd; simp at T
     simp only [T, if_true, if_false, Bool.false_eq_true]
     refine .callC (d := 39) (p86 N x47 a1 r54 hr54) (by simp) rfl rfl (by simp <;> rfl) (by simp <;> rfl) ent86 (by simp) (.inl ⟨by simp, by simp⟩) ?_
     exact .nil (by simp [T]; exact Sub.table (by simp) (by simp))
    ·intro b h0 ha hd
     have T := fct h0 ha hd; simp at T
     refine .runK [40] 1 fun K k => ?_; simp [T]; refine k _ _ ?_; clear k K
     exact .nil (.table (by simp [T]) (by simp [T]))
    ·intro b h0 ha hd
     have T := fct h0 ha hd; simp at T
     refine .runK [40] 1 fun K k => ?_; simp [T, hl55a]; refine k _ _ ?_; clear k K
     exact .nil (.table (by simp [T]) (by simp [T]))
    ·intro b h0 ha hd
     have T := fct h0 ha hd; simp at T
     refine .runK [40] 1 fun K k => ?_; simp [T]; refine k _ _ ?_; clear k K
     exact .nil (.table (by simp [T]) (by simp [T]))
    ·intro b hb
     have t0 := hb 0 (by decide)
     have t1 := hb 1 (by decide)
     have t2 := hb 2 (by decide)
     have t3 := hb 3 (by decide)
     have t4 := hb 4 (by decide)
     have t5 := hb 5 (by decide)
     have t6 := hb 6 (by decide)
     exact Sub.table (by simp [t1, t2, t3, t4, t5]) (by simp [t5, t6])
    skip
    cases h
    refine blockQ.normal ?_
    exact ⟨rfl, Sub.tt⟩
   rintro l50 h
   try dsimp only at h ⊢
   refine blockQ.normal ?_
   refine thenQ_normal ?_
   refine .seqR ?_
   refine .runK [] 2 fun K k => ?_; simp; refine k _ _ ?_; clear k K
   refine .tt [(2, .i a2), (4, .ptr 4 0 0), (9, .ref 41 0 l50.length), (11, .i v16)] (H22 a1 l50) ?_
   refine .nil ?_
   refine .region ?_
   replace h := bsome h; obtain ⟨v56, hv56, h⟩ := h
   have hv56 := chkI_some hv56
   refine .runK [] 3 fun K k => ?_; simp [hv56]; refine k _ _ ?_; clear k K
   refine .tt [(2, .i a2), (4, .ptr 4 0 0), (9, .ref 41 0 l50.length), (11, .i v56)] (H22 a1 l50) ?_
   refine .nil ?_
   cases h
   refine blockQ.normal ?_
   refine PostI.next ?_
   exact (Sub.trans (Sub.freeze 41 rfl) (by simp; exact Sub.tt))
  have c45_ : decide ((l15.length : Int) > 1) = false := decide_eq_false c45
  refine .condF (b := decide ((l15.length : Int) > 1)) rfl c45_ ?_
  refine .sub (.bool 31 (b := decide ((l15.length : Int) > 1)) rfl c45_) ?_
  refine .st (mk 66 [] (L34 a2 l15 v16 ++ [(31, .b false)]) (H2 a1)) ?_
  refine .exit ?_
  cases h
  refine thenQ_pass (by simp) ?_
  refine PostI.out (by simp) ?_
  rintro rfl
  refine blockQ.hit ?_
  refine PostN.next ?_
  exact Sub.tt
 rintro ⟨l43, v44⟩ h
 dsimp only at h ⊢
 refine .seqR ?_
 refine .runK [] 1 fun K k => ?_; simp; refine k _ _ ?_; clear k K
 refine .tt [(9, .d (.sl (l43.map (cL (cL cS61))))), (11, .i v44), (14, .d (.lit (.slice none 0 0)))] [] ?_
 refine .nil ?_
 refine .seq ?_
 refine .seqR ?_
 refine .runK [] 3 fun K k => ?_; simp; refine k _ _ ?_; clear k K
 refine .tt [(11, .i v44), (14, .d (.lit (.slice none 0 0))), (45, .d (.sl (l43.map (cL (cL cS61))))), (46, .i (l43.length : Int)), (47, .i 0)] [] ?_
 refine .nil ?_
 refine .lastN (fun (l156 : List (List S61)) => mk 66 [] [(11, .i v44), (14, .ref 61 0 l156.length)] [(61, R57 l156)]) h ?_ ?_ <;> clear h
 ·intro o h
  refine .block ?_
  refine .iter (fun ((l88, v89) : ((List (List S61)) × Int)) => mk 66 [] (L35 v44 l88.length l43 l43.length v89) [(61, R57 l88)]) h (Sub.trans (Sub.nilOwn (t := 14) (id := 61) (T := 57) (n := 1) rfl rfl (by decide)) (by simp; exact Sub.tt)) ?_
  clear h
  rintro ⟨l88, v89⟩ x h
  dsimp only at h ⊢
  refine .seqR ?_
  refine .runK [] 1 fun K k => ?_; simp; refine k _ _ ?_; clear k K
  refine .tt (L35 v44 l88.length l43 l43.length v89 ++ [(48, .b (decide (v89 < (l43.length : Int))))]) [(61, R57 l88)] ?_
  refine .nil ?_
  refine .seq ?_
  replace h := isome h; rcases h with ⟨c157, h⟩ | ⟨c157, h⟩
  ·have c157_ : decide (v89 < (l43.length : Int)) = true := decide_eq_true c157
   refine .condT (b := decide (v89 < (l43.length : Int))) rfl c157_ ?_
   refine .sub (.bool 48 (b := decide (v89 < (l43.length : Int))) rfl c157_) ?_
   refine .st (mk 66 [] (L35 v44 l88.length l43 l43.length v89 ++ [(48, .b true)]) [(61, R57 l88)]) ?_
   refine .skip ?_
   refine thenQ_normal ?_
   refine .seq ?_
   refine .block ?_
   refine .seqR ?_
   replace h := bsome h; obtain ⟨x158, hx158, h⟩ := h
   obtain ⟨k159, hx158k, hx158, hx158a, hx158b⟩ := idx_some hx158
   refine .runK [] 3 fun K k => ?_; simp [hx158, hx158k, hx158a]; refine k _ _ ?_; clear k K
   refine .tt [(11, .i v44), (14, .ref 61 0 l88.length), (16, .d (.sl (x158.map (cL cS61)))), (45, .d (.sl (l43.map (cL (cL cS61))))), (46, .i (l43.length : Int)), (47, .i v89)] [(61, R57 l88)] ?_
   refine .nil ?_
   refine .seqR ?_
   refine .runK [] 3 fun K k => ?_; simp; refine k _ _ ?_; clear k K
   refine .tt (L35 v44 l88.length l43 l43.length v89 ++ [(51, .d (.sl (x158.map (cL cS61)))), (52, .i (x158.length : Int)), (53, .i 0)]) [(61, R57 l88)] ?_
   refine .nil ?_
   refine .lastN (fun (l181 : List (List S61)) => mk 66 [] (L35 v44 l181.length l43 l43.length v89) [(61, R57 l181)]) h ?_ ?_ <;> clear h
   ·intro o h
    refine .block ?_
    refine .iter (fun ((l165, v166) : ((List (List S61)) × Int)) => mk 66 [] (L36 v44 l165.length l43 l43.length v89 x158 x158.length v166) [(61, R57 l165)]) h Sub.tt ?_
    clear h
    rintro ⟨l165, v166⟩ x h
    dsimp only at h ⊢
    refine .seqR ?_
    refine .runK [] 1 fun K k => ?_; simp; refine k _ _ ?_; clear k K
    refine .tt (L36 v44 l165.length l43 l43.length v89 x158 x158.length v166 ++ [(54, .b (decide (v166 < (x158.length : Int))))]) [(61, R57 l165)] ?_
    refine .nil ?_
    refine .seq ?_
    replace h := isome h; rcases h with ⟨c182, h⟩ | ⟨c182, h⟩
    ·have c182_ : decide (v166 < (x158.length : Int)) = true := decide_eq_true c182
     refine .condT (b := decide (v166 < (x158.length : Int))) rfl c182_ ?_
     refine .sub (.bool 54 (b := decide (v166 < (x158.length : Int))) rfl c182_) ?_
     refine .st (mk 66 [] (L36 v44 l165.length l43 l43.length v89 x158 x158.length v166 ++ [(54, .b true)]) [(61, R57 l165)]) ?_
     refine .skip ?_
     refine thenQ_normal ?_
     refine .seq ?_
     refine .block ?_
     refine .seqR ?_
     replace h := bsome h; obtain ⟨x183, hx183, h⟩ := h
     obtain ⟨k184, hx183k, hx183, hx183a, hx183b⟩ := idx_some hx183
     refine .runK [] 3 fun K k => ?_; simp [hx183, hx183k, hx183a]; refine k _ _ ?_; clear k K
     refine .tt [(11, .i v44), (14, .ref 61 0 l165.length), (18, .d (.sl (x183.map cS61))), (45, .d (.sl (l43.map (cL (cL cS61))))), (46, .i (l43.length : Int)), (47, .i v89), (51, .d (.sl (x158.map (cL cS61)))), (52, .i (x158.length : Int)), (53, .i v166)] [(61, R57 l165)] ?_
     refine .nil ?_
     refine .region ?_
     refine .runK [60] 2 fun K k => ?_; simp; refine k _ _ ?_; clear k K
     refine .tt [(11, .i v44), (45, .d (.sl (l43.map (cL (cL cS61))))), (46, .i (l43.length : Int)), (47, .i v89), (51, .d (.sl (x158.map (cL cS61)))), (52, .i (x158.length : Int)), (53, .i v166), (57, .ref 61 0 l165.length), (58, .d (.sl (x183.map cS61)))] [(61, R57 l165)] ?_
     replace h := bsome h; obtain ⟨r185, hr185, h⟩ := h
     refine .callC (d := 59) (p39 N x183 r185 hr185) (by simp) rfl rfl (by simp <;> rfl) (by simp <;> rfl) ent39 (by simp) (.inl ⟨by simp, by simp⟩) ?_
     refine .st (mk 66 [] [(11, .i v44), (45, .d (.sl (l43.map (cL (cL cS61))))), (46, .i (l43.length : Int)), (47, .i v89), (51, .d (.sl (x158.map (cL cS61)))), (52, .i (x158.length : Int)), (53, .i v166), (57, .ref 61 0 l165.length), (58, .d (.sl (x183.map cS61))), (59, .d (.sl (r185.map cS61)))] [(61, R57 l165)]) ?_
     replace h := bsome h; obtain ⟨l186, hl186, h⟩ := h
     obtain ⟨hl186a, hl186⟩ := appL_some hl186
     subst hl186
     try simp only [List.length_cons, List.length_nil, Nat.zero_add] at hl186a
     refine .runK [60] 3 fun K k => ?_; simp [hl186a]; refine k _ _ ?_; clear k K
     refine .tt [(11, .i v44), (14, .ref 61 0 ((l165 ++ [r185]).length)), (45, .d (.sl (l43.map (cL (cL cS61))))), (46, .i (l43.length : Int)), (47, .i v89), (51, .d (.sl (x158.map (cL cS61)))), (52, .i (x158.length : Int)), (53, .i v166)] [(61, R57 (l165 ++ [r185]))] ?_
     refine .nil ?_
     refine blockQ.normal ?_
     refine thenQ_normal ?_
     refine .region ?_
     replace h := bsome h; obtain ⟨v187, hv187, h⟩ := h
     have hv187 := chkI_some hv187
     refine .runK [] 2 fun K k => ?_; simp [hv187]; refine k _ _ ?_; clear k K
     refine .tt [(11, .i v44), (14, .ref 61 0 ((l165 ++ [r185]).length)), (45, .d (.sl (l43.map (cL (cL cS61))))), (46, .i (l43.length : Int)), (47, .i v89), (51, .d (.sl (x158.map (cL cS61)))), (52, .i (x158.length : Int)), (53, .i v187)] [(61, R57 (l165 ++ [r185]))] ?_
     refine .nil ?_
     cases h
     refine PostI.next ?_
     exact Sub.tt
    have c182_ : decide (v166 < (x158.length : Int)) = false := decide_eq_false c182
    refine .condF (b := decide (v166 < (x158.length : Int))) rfl c182_ ?_
    refine .sub (.bool 54 (b := decide (v166 < (x158.length : Int))) rfl c182_) ?_
    refine .st (mk 66 [] (L36 v44 l165.length l43 l43.length v89 x158 x158.length v166 ++ [(54, .b false)]) [(61, R57 l165)]) ?_
    refine .exit ?_
    cases h
    refine thenQ_pass (by simp) ?_
    refine PostI.out (by simp) ?_
    rintro rfl
    refine blockQ.hit ?_
    refine PostN.next ?_
    exact Sub.tt
   rintro l181 h
   refine blockQ.normal ?_
   refine thenQ_normal ?_
   refine .region ?_
   replace h := bsome h; obtain ⟨v188, hv188, h⟩ := h
   have hv188 := chkI_some hv188
   refine .runK [] 2 fun K k => ?_; simp [hv188]; refine k _ _ ?_; clear k K
   refine .tt (L35 v44 l181.length l43 l43.length v188) [(61, R57 l181)] ?_
   refine .nil ?_
   cases h
   refine PostI.next ?_
   exact Sub.tt
  have c157_ : decide (v89 < (l43.length : Int)) = false := decide_eq_false c157
  refine .condF (b := decide (v89 < (l43.length : Int))) rfl c157_ ?_
  refine .sub (.bool 48 (b := decide (v89 < (l43.length : Int))) rfl c157_) ?_
  refine .st (mk 66 [] (L35 v44 l88.length l43 l43.length v89 ++ [(48, .b false)]) [(61, R57 l88)]) ?_
  refine .exit ?_
  cases h
  refine thenQ_pass (by simp) ?_
  refine PostI.out (by simp) ?_
  rintro rfl
  refine blockQ.hit ?_
  refine PostN.next ?_
  exact Sub.tt
 rintro l156 h
 refine thenQ_normal ?_
 refine .seqR ?_
 refine .runK [] 5 fun K k => ?_; simp; refine k _ _ ?_; clear k K
 refine .tt [(6, .ref 61 0 l156.length), (7, .i v44), (8, .i 0)] [(61, R57 l156)] ?_
 refine .nil ?_
 refine .sub (.freeze 61 rfl) ?_
 refine .st (mk 66 [] [(6, .d (.sl (l156.map (cL cS61)))), (7, .i v44), (8, .i 0)] []) ?_
 refine .ret ?_
 cases h
 exact FinC.ret (by simp) (by simp)
/-- stemma/stemlaw3.keyOf -/
def d35 (N : Nat) (a0 : (List S61)) (a1 : (List Int)) : Option (List S61) :=
 Option.bind (α := List S61) (
  iterN (σ := ((List S61) × Int)) (ρ := List S61) (fun ((l7, v8) : ((List S61) × Int)) =>
   if v8 < (a1.length : Int) then (
    (idx a1 v8).bind fun x27 =>
    (idx a0 x27).bind fun x29 =>
    (appL 32 l7 [x29]).bind fun _l31 =>
    (chkI (v8 + 1)).bind fun v32 =>
    some (.inl ((l7 ++ [x29]), v32))
   ) else
   some (.inr l7)
  ) N (([] : List S61), 0)
 ) fun (l25 : List S61) =>
 some l25
set_option maxRecDepth 100000 in
set_option maxHeartbeats 4000000 in
theorem p35 (N : Nat) (a0 : (List S61)) (a1 : (List Int)) (r : (List S61)) (h : d35 N a0 a1 = some r) : FunC Tryz.prog 35 [.d (.sl (a0.map cS61)), .d (.sl (a1.map (cI .i64)))] (.d (.sl (r.map cS61))) := by
 unfold d35 at h
 refine FunC.enter 24 [(0, .d (.sl (a0.map cS61))), (1, .d (.sl (a1.map (cI .i64))))] (by simp) Tryz.func35 rfl (of_decide_eq_true rfl) rfl rfl ?_
 refine .seqR ?_
 refine .runK [] 1 fun K k => ?_; simp; refine k _ _ ?_; clear k K
 refine .tt [(0, .d (.sl (a0.map cS61))), (1, .d (.sl (a1.map (cI .i64))))] [] ?_
 refine .nil ?_
 refine .seqR ?_
 refine .runK [] 2 fun K k => ?_; simp; refine k _ _ ?_; clear k K
 refine .tt [(0, .d (.sl (a0.map cS61))), (1, .d (.sl (a1.map (cI .i64)))), (5, .ref 8 0 (([] : List S61).length))] [(8, R61 ([] : List S61))] ?_
 refine .nil ?_
 refine .seq ?_
 refine .seqR ?_
 refine .runK [] 3 fun K k => ?_; simp; refine k _ _ ?_; clear k K
 refine .tt [(0, .d (.sl (a0.map cS61))), (5, .ref 8 0 (([] : List S61).length)), (9, .d (.sl (a1.map (cI .i64)))), (10, .i (a1.length : Int)), (11, .i 0)] [(8, R61 ([] : List S61))] ?_
 refine .nil ?_
 refine .lastN (fun (l25 : List S61) => mk 24 [] [(5, .ref 8 0 l25.length)] [(8, R61 l25)]) h ?_ ?_ <;> clear h
 ·intro o h
  refine .block ?_
  refine .iter (fun ((l7, v8) : ((List S61) × Int)) => mk 24 [] (L37 a0 l7.length a1 a1.length v8) [(8, R61 l7)]) h Sub.tt ?_
  clear h
  rintro ⟨l7, v8⟩ x h
  dsimp only at h ⊢
  refine .seqR ?_
  refine .runK [] 1 fun K k => ?_; simp; refine k _ _ ?_; clear k K
  refine .tt (L37 a0 l7.length a1 a1.length v8 ++ [(12, .b (decide (v8 < (a1.length : Int))))]) [(8, R61 l7)] ?_
  refine .nil ?_
  refine .seq ?_
  replace h := isome h; rcases h with ⟨c26, h⟩ | ⟨c26, h⟩
  ·have c26_ : decide (v8 < (a1.length : Int)) = true := decide_eq_true c26
   refine .condT (b := decide (v8 < (a1.length : Int))) rfl c26_ ?_
   refine .sub (.bool 12 (b := decide (v8 < (a1.length : Int))) rfl c26_) ?_
   refine .st (mk 24 [] (L37 a0 l7.length a1 a1.length v8 ++ [(12, .b true)]) [(8, R61 l7)]) ?_
   refine .skip ?_
   refine thenQ_normal ?_
   refine .seq ?_
   refine .block ?_
   refine .seqR ?_
   replace h := bsome h; obtain ⟨x27, hx27, h⟩ := h
   obtain ⟨k28, hx27k, hx27, hx27a, hx27b⟩ := idx_some hx27
   refine .runK [] 3 fun K k => ?_; simp [hx27, hx27k, hx27a]; refine k _ _ ?_; clear k K
   refine .tt [(0, .d (.sl (a0.map cS61))), (5, .ref 8 0 l7.length), (7, .i x27), (9, .d (.sl (a1.map (cI .i64)))), (10, .i (a1.length : Int)), (11, .i v8)] [(8, R61 l7)] ?_
   refine .nil ?_
   refine .region ?_
   replace h := bsome h; obtain ⟨x29, hx29, h⟩ := h
   obtain ⟨k30, hx29k, hx29, hx29a, hx29b⟩ := idx_some hx29
   replace h := bsome h; obtain ⟨l31, hl31, h⟩ := h
   obtain ⟨hl31a, hl31⟩ := appL_some hl31
   subst hl31
   try simp only [List.length_cons, List.length_nil, Nat.zero_add] at hl31a
   refine .runK [20] 8 fun K k => ?_; simp [hx29, hx29k, hx29a, hl31a]; refine k _ _ ?_; clear k K
   refine .tt [(0, .d (.sl (a0.map cS61))), (5, .ref 8 0 ((l7 ++ [x29]).length)), (9, .d (.sl (a1.map (cI .i64)))), (10, .i (a1.length : Int)), (11, .i v8)] [(8, R61 (l7 ++ [x29]))] ?_
   refine .nil ?_
   refine blockQ.normal ?_
   refine thenQ_normal ?_
   refine .region ?_
   replace h := bsome h; obtain ⟨v32, hv32, h⟩ := h
   have hv32 := chkI_some hv32
   refine .runK [] 2 fun K k => ?_; simp [hv32]; refine k _ _ ?_; clear k K
   refine .tt [(0, .d (.sl (a0.map cS61))), (5, .ref 8 0 ((l7 ++ [x29]).length)), (9, .d (.sl (a1.map (cI .i64)))), (10, .i (a1.length : Int)), (11, .i v32)] [(8, R61 (l7 ++ [x29]))] ?_
   refine .nil ?_
   cases h
   refine PostI.next ?_
   exact Sub.tt
  have c26_ : decide (v8 < (a1.length : Int)) = false := decide_eq_false c26
  refine .condF (b := decide (v8 < (a1.length : Int))) rfl c26_ ?_
  refine .sub (.bool 12 (b := decide (v8 < (a1.length : Int))) rfl c26_) ?_
  refine .st (mk 24 [] (L37 a0 l7.length a1 a1.length v8 ++ [(12, .b false)]) [(8, R61 l7)]) ?_
  refine .exit ?_
  cases h
  refine thenQ_pass (by simp) ?_
  refine PostI.out (by simp) ?_
  rintro rfl
  refine blockQ.hit ?_
  refine PostN.next ?_
  exact Sub.tt
 rintro l25 h
 refine thenQ_normal ?_
 refine .seqR ?_
 refine .runK [] 2 fun K k => ?_; simp; refine k _ _ ?_; clear k K
 refine .tt [(4, .ref 8 0 l25.length)] [(8, R61 l25)] ?_
 refine .nil ?_
 refine .sub (.freeze 8 rfl) ?_
 refine .st (mk 24 [] [(4, .d (.sl (l25.map cS61)))] []) ?_
 refine .ret ?_
 cases h
 exact FinC.ret (by simp) (by simp)
/-- stemma/stemref3.Before -/
def d107 (_N : Nat) (a0 : S61) (a1 : S61) : Option Bool :=
 if (a0.Kind != a1.Kind) then (
  some (decide (a0.Kind < a1.Kind))
 ) else
 if (a0.Int != a1.Int) then (
  some (decide (a0.Int < a1.Int))
 ) else
 some (Op.bytesLess a0.Text.toList a1.Text.toList)
set_option maxRecDepth 100000 in
set_option maxHeartbeats 4000000 in
theorem p107 (N : Nat) (a0 : S61) (a1 : S61) (r : Bool) (h : d107 N a0 a1 = some r) : FunC Tryz.prog 107 [.agg [.i a0.Kind, .i a0.Int, .d (.lit (.string a0.Text))], .agg [.i a1.Kind, .i a1.Int, .d (.lit (.string a1.Text))]] (.b r) := by
 unfold d107 at h
 refine FunC.enter 30 [(0, .agg [.i a0.Kind, .i a0.Int, .d (.lit (.string a0.Text))]), (1, .agg [.i a1.Kind, .i a1.Int, .d (.lit (.string a1.Text))])] (by simp) Tryz.func107 rfl (of_decide_eq_true rfl) rfl rfl ?_
 refine .seqR ?_
 refine .runK [] 3 fun K k => ?_; simp; refine k _ _ ?_; clear k K
 refine .tt [(2, .ptr 2 0 0), (3, .ptr 3 0 0)] (H7 a0 a1) ?_
 refine .nil ?_
 refine .seq ?_
 refine .seqR ?_
 refine .runK [] 5 fun K k => ?_; simp; refine k _ _ ?_; clear k K
 refine .tt [(2, .ptr 2 0 0), (3, .ptr 3 0 0), (9, .b (a0.Kind != a1.Kind))] (H7 a0 a1) ?_
 refine .nil ?_
 replace h := isome h; rcases h with ⟨c1, h⟩ | ⟨c1, h⟩
 ·have c1_ : (a0.Kind != a1.Kind) = true := c1
  refine .condT (b := (a0.Kind != a1.Kind)) rfl c1_ ?_
  refine .sub (.bool 9 (b := (a0.Kind != a1.Kind)) rfl c1_) ?_
  refine .st (mk 30 [] [(2, .ptr 2 0 0), (3, .ptr 3 0 0), (9, .b true)] (H7 a0 a1)) ?_
  refine .seqR ?_
  refine .runK [] 6 fun K k => ?_; simp; refine k _ _ ?_; clear k K
  refine .tt [(4, .b (decide (a0.Kind < a1.Kind)))] [] ?_
  refine .nil ?_
  refine .ret ?_
  cases h
  refine thenQ_pass (by simp) ?_
  exact FinC.ret (by simp) (by simp)
 have c1_ : (a0.Kind != a1.Kind) = false := Bool.eq_false_iff.2 c1
 refine .condF (b := (a0.Kind != a1.Kind)) rfl c1_ ?_
 refine .sub (.bool 9 (b := (a0.Kind != a1.Kind)) rfl c1_) ?_
 refine .st (mk 30 [] [(2, .ptr 2 0 0), (3, .ptr 3 0 0), (9, .b false)] (H7 a0 a1)) ?_
 refine .skip ?_
 refine thenQ_normal ?_
 refine .seq ?_
 refine .seqR ?_
 refine .runK [] 5 fun K k => ?_; simp; refine k _ _ ?_; clear k K
 refine .tt [(2, .ptr 2 0 0), (3, .ptr 3 0 0), (19, .b (a0.Int != a1.Int))] (H7 a0 a1) ?_
 refine .nil ?_
 replace h := isome h; rcases h with ⟨c2, h⟩ | ⟨c2, h⟩
 ·have c2_ : (a0.Int != a1.Int) = true := c2
  refine .condT (b := (a0.Int != a1.Int)) rfl c2_ ?_
  refine .sub (.bool 19 (b := (a0.Int != a1.Int)) rfl c2_) ?_
  refine .st (mk 30 [] [(2, .ptr 2 0 0), (3, .ptr 3 0 0), (19, .b true)] (H7 a0 a1)) ?_
  refine .seqR ?_
  refine .runK [] 6 fun K k => ?_; simp; refine k _ _ ?_; clear k K
  refine .tt [(4, .b (decide (a0.Int < a1.Int)))] [] ?_
  refine .nil ?_
  refine .ret ?_
  cases h
  refine thenQ_pass (by simp) ?_
  exact FinC.ret (by simp) (by simp)
 have c2_ : (a0.Int != a1.Int) = false := Bool.eq_false_iff.2 c2
 refine .condF (b := (a0.Int != a1.Int)) rfl c2_ ?_
 refine .sub (.bool 19 (b := (a0.Int != a1.Int)) rfl c2_) ?_
 refine .st (mk 30 [] [(2, .ptr 2 0 0), (3, .ptr 3 0 0), (19, .b false)] (H7 a0 a1)) ?_
 refine .skip ?_
 refine thenQ_normal ?_
 refine .seqR ?_
 refine .runK [] 6 fun K k => ?_; simp; refine k _ _ ?_; clear k K
 refine .tt [(4, .b (Op.bytesLess a0.Text.toList a1.Text.toList))] [] ?_
 refine .nil ?_
 refine .ret ?_
 cases h
 exact FinC.ret (by simp) (by simp)
end Go.Proofs.YtimkkjiplioohaaGreatDoor
