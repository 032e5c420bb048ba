/- Functions of the program as functional programs; the code computes them. -/
import Derived.Test.YtimkkjiplioohaaGreatDoorSt9
import Derived.Test.YtimkkjiplioohaaGreatDoorStN2
namespace Go.Proofs.YtimkkjiplioohaaGreatDoor
open Go.Ab Go.Rp
attribute [-simp] List.all_eq_true Array.all_toList Array.all_eq_true

/-- stemma/stemref3.RowBefore -/
def d79 (N : Nat) (a0 : (List S61)) (a1 : (List S61)) (a2 : (List Bool)) : Option Bool :=
 letv (minI (a0.length : Int) (a1.length : Int)) fun v1 =>
 bindO (β := Unit) (ρ := Bool) (
  iterN (σ := Int) (ρ := (Out Unit Bool)) (fun (v23 : Int) =>
   if v23 < v1 then (
    (idx a0 v23).bind fun x70 =>
    (idx a1 v23).bind fun x72 =>
    Option.bind (α := Bool) (
     if v23 < (a2.length : Int) then (
      (idx a2 v23).bind fun x77 =>
      some x77
     ) else
     some false
    ) fun (v75 : Bool) =>
    Option.bind (α := (Int × Int × ByteArray × Int × Int × ByteArray)) (
     if v75 = true then (
      some (x72.Kind, x72.Int, x72.Text, x70.Kind, x70.Int, x70.Text)
     ) else
     some (x70.Kind, x70.Int, x70.Text, x72.Kind, x72.Int, x72.Text)
    ) fun ((v79, v80, v81, v82, v83, v84) : (Int × Int × ByteArray × Int × Int × ByteArray)) =>
    (d107 N (S61.mk v79 v80 v81) (S61.mk v82 v83 v84)).bind fun r86 =>
    if r86 = true then (
     some (.inr (.ret true))
    ) else
    (d107 N (S61.mk v82 v83 v84) (S61.mk v79 v80 v81)).bind fun r88 =>
    if r88 = true then (
     some (.inr (.ret false))
    ) else
    (chkI (v23 + 1)).bind fun v90 =>
    some (.inl v90)
   ) else
   some (.inr (.go ()))
  ) N 0
 ) fun (_ : Unit) =>
 some false
set_option maxRecDepth 100000 in
set_option maxHeartbeats 4000000 in
theorem p79 (N : Nat) (a0 : (List S61)) (a1 : (List S61)) (a2 : (List Bool)) (r : Bool) (h : d79 N a0 a1 a2 = some r) : FunC Tryz.prog 79 [.d (.sl (a0.map cS61)), .d (.sl (a1.map cS61)), .d (.sl (a2.map cB))] (.b r) := by
 unfold d79 at h
 refine FunC.enter 45 [(0, .d (.sl (a0.map cS61))), (1, .d (.sl (a1.map cS61))), (2, .d (.sl (a2.map cB)))] (by simp) Tryz.func79 rfl (of_decide_eq_true rfl) rfl rfl ?_
 refine .seqR ?_
 refine .runK [] 1 fun K k => ?_; simp; refine k _ _ ?_; clear k K
 refine .tt (L2 a0 a1 ++ [(2, .d (.sl (a2.map cB)))]) [] ?_
 refine .nil ?_
 refine .seq ?_
 refine .seqR ?_
 replace h := lsome h; obtain ⟨v1, hv1, h⟩ := h
 unfold minI at hv1
 try simp only [Int.ofNat_lt] at hv1
 refine .runK [] 6 fun K k => ?_; simp [hv1]; refine k _ _ ?_; clear k K
 refine .tt (L2 a0 a1 ++ [(2, .d (.sl (a2.map cB))), (14, .i v1), (15, .i 0)]) [] ?_
 refine .nil ?_
 refine .lastJ (fun (_ : Unit) => mk 45 [] [] []) h ?_ ?_ <;> clear h
 ·intro o h
  refine .block ?_
  refine .iter (fun (v23 : Int) => mk 45 [] (L38 a0 a1 a2 v1 v23) []) h Sub.tt ?_
  clear h
  rintro v23 x h
  refine .seqR ?_
  refine .runK [] 1 fun K k => ?_; simp; refine k _ _ ?_; clear k K
  refine .tt (L38 a0 a1 a2 v1 v23 ++ [(16, .b (decide (v23 < v1)))]) [] ?_
  refine .nil ?_
  refine .seq ?_
  replace h := isome h; rcases h with ⟨c69, h⟩ | ⟨c69, h⟩
  ·have c69_ : decide (v23 < v1) = true := decide_eq_true c69
   refine .condT (b := decide (v23 < v1)) rfl c69_ ?_
   refine .sub (.bool 16 (b := decide (v23 < v1)) rfl c69_) ?_
   refine .st (mk 45 [] (L38 a0 a1 a2 v1 v23 ++ [(16, .b true)]) []) ?_
   refine .skip ?_
   refine thenQ_normal ?_
   refine .seq ?_
   refine .block ?_
   refine .seqR ?_
   refine .runK [] 2 fun K k => ?_; simp; refine k _ _ ?_; clear k K
   refine .tt (L2 a0 a1 ++ [(2, .d (.sl (a2.map cB))), (7, .i v23), (14, .i v1), (15, .i v23)]) [] ?_
   refine .nil ?_
   replace h := bsome h; obtain ⟨x70, hx70, h⟩ := h
   obtain ⟨k71, hx70k, hx70, hx70a, hx70b⟩ := idx_some hx70
   replace h := bsome h; obtain ⟨x72, hx72, h⟩ := h
   obtain ⟨hx72, hx72a, hx72b⟩ := idx_some2 hx72 hx70k
   refine .seqAnyS [[], [], [0, 1], [0, 1, 2], [], [], [4, 5], [4, 5, 6], [], [], [0, 1, 2, 3, 8, 9], [0, 1, 2, 3, 4, 5, 6, 7, 8, 9, 10]] (fun (b : Nat → Bool) => mk 45 [] [(0, .d (.sl (a0.map cS61))), (1, .d (.sl (a1.map cS61))), (2, .d (.sl (a2.map cB))), (7, .i v23), (8, (if b 8 then .ptr 8 0 0 else .junk)), (9, (if b 9 then .ptr 9 0 0 else .junk)), (14, .i v1), (15, .i v23), (18, (if b 0 then .d (.sl (a0.map cS61)) else .junk)), (19, (if b 1 then .i v23 else .junk)), (20, (if b 2 then .d (.pim [.lit (.int .i64 x70.Kind), .lit (.int .i64 x70.Int), .lit (.string x70.Text)]) else .junk)), (21, (if b 3 then .agg [.i x70.Kind, .i x70.Int, .d (.lit (.string x70.Text))] else .junk)), (22, (if b 4 then .d (.sl (a1.map cS61)) else .junk)), (23, (if b 5 then .i v23 else .junk)), (24, (if b 6 then .d (.pim [.lit (.int .i64 x72.Kind), .lit (.int .i64 x72.Int), .lit (.string x72.Text)]) else .junk)), (25, (if b 7 then .agg [.i x72.Kind, .i x72.Int, .d (.lit (.string x72.Text))] else .junk))] [(8, (if b 10 then some (.box [.i x70.Kind, .i x70.Int, .d (.lit (.string x70.Text))]) else (if b 8 then some (.box [.i 0, .i 0, .d (.lit (.string (ByteArray.mk #[])))]) else none))), (9, (if b 11 then some (.box [.i x72.Kind, .i x72.Int, .d (.lit (.string x72.Text))]) else (if b 9 then some (.box [.i 0, .i 0, .d (.lit (.string (ByteArray.mk #[])))]) else none)))]) (mk 45 [] (L39 a0 a1 a2 v23 v1) (H9 x70 x72)) (by kernel_rfl) (by kernel_rfl) Sub.tt (Steps.cons ?_ (Steps.cons ?_ (Steps.cons ?_ (Steps.cons ?_ (Steps.cons ?_ (Steps.cons ?_ (Steps.cons ?_ (Steps.cons ?_ (Steps.cons ?_ (Steps.cons ?_ (Steps.cons ?_ (Steps.cons ?_ (Steps.nil))))))))))))) ?_ ?_
   iterate 2
    ·intro b h0 ha hd
     have T := fct h0 ha hd; simp at T
     refine .runK [] 1 fun K k => ?_; simp [T]; refine k _ _ ?_; clear k K
     exact .nil (.table (by simp [T]) (by simp [T]))
   ·intro b h0 ha hd
    have T := fct h0 ha hd; simp at T
    refine .runK [] 1 fun K k => ?_; simp [T, hx70, hx70k, hx70a]; refine k _ _ ?_; clear k K
    exact .nil (.table (by simp [T]) (by simp [T]))
   iterate 3
    ·intro b h0 ha hd
     have T := fct h0 ha hd; simp at T
     refine .runK [] 1 fun K k => ?_; simp [T]; refine k _ _ ?_; clear k K
     exact .nil (.table (by simp [T]) (by simp [T]))
   ·intro b h0 ha hd
    have T := fct h0 ha hd; simp at T
    refine .runK [] 1 fun K k => ?_; simp [T, hx72, hx70k, hx72a]; refine k _ _ ?_; clear k K
    exact .nil (.table (by simp [T]) (by simp [T]))
   ·intro b h0 ha hd
    have T := fct h0 ha hd; simp at T
    refine .runK [] 1 fun K k => ?_; simp [T]; refine k _ _ ?_; clear k K
    exact .nil (.table (by simp [T]) (by simp [T]))
   ·intro b h0 ha hd
    have T := fct h0 ha hd; simp at T
    cases q9 : b 9 <;> (refine Chain.runK [] 1 fun K k => ?_; simp [T]; refine k _ _ ?_; clear k K; exact .nil (.table (by simp [q9]) (by simp [T, q9])))
   ·intro b h0 ha hd
    have T := fct h0 ha hd; simp at T
    cases q8 : b 8 <;> (refine Chain.runK [] 1 fun K k => ?_; simp [T]; refine k _ _ ?_; clear k K; exact .nil (.table (by simp [q8]) (by simp [T, q8])))
   iterate 2
    ·intro b h0 ha hd
     have T := fct h0 ha hd; simp at T
     refine .runK [] 1 fun K k => ?_; simp [T]; refine k _ _ ?_; clear k K
     exact .nil (.table (by simp [T]) (by simp [T]))
   ·intro b hb
    have t0 := hb 0 (by decide)
    have t1 := hb 1 (by decide)
    have t2 := hb 2 (by decide)
    have t3 := hb 3 (by decide)
    have t4 := hb 4 (by decide)
    have t5 := hb 5 (by decide)
    have t6 := hb 6 (by decide)
    have t7 := hb 7 (by decide)
    have t8 := hb 8 (by decide)
    have t9 := hb 9 (by decide)
    have t10 := hb 10 (by decide)
    have t11 := hb 11 (by decide)
    exact Sub.table (by simp [t0, t1, t2, t3, t4, t5, t6, t7, t8, t9]) (by simp [t10, t11])
   skip
   refine .seq ?_
   replace h := bsome h; obtain ⟨v75, hj, h⟩ := h
   refine .cutR (mk 45 [] (L40 a0 a1 a2 v1 v23 ++ [(35, .b v75)]) (H9 x70 x72)) ?_ ?_
   ·clear h; have h := hj; clear hj
    refine .runK [] 5 fun K k => ?_; simp; refine k _ _ ?_; clear k K
    refine .tt (L39 a0 a1 a2 v23 v1 ++ [(30, .b (decide (v23 < (a2.length : Int))))]) (H9 x70 x72) ?_
    replace h := isome h; rcases h with ⟨c76, h⟩ | ⟨c76, h⟩
    ·have c76_ : decide (v23 < (a2.length : Int)) = true := decide_eq_true c76
     refine .sub (.bool 30 (b := decide (v23 < (a2.length : Int))) rfl c76_) ?_
     refine .st (mk 45 [] (L39 a0 a1 a2 v23 v1 ++ [(30, .b true)]) (H9 x70 x72)) ?_
     replace h := bsome h; obtain ⟨x77, hx77, h⟩ := h
     obtain ⟨hx77, hx77a, hx77b⟩ := idx_some2 hx77 hx70k
     refine .runK [] 5 fun K k => ?_; simp [hx77, hx70k, hx77a]; refine k _ _ ?_; clear k K
     refine .tt (L40 a0 a1 a2 v1 v23 ++ [(31, .d (.sl (a2.map cB))), (32, .i v23), (33, .d (.pim [.lit (.bool x77)])), (34, .b x77), (35, .b x77)]) (H9 x70 x72) ?_
     cases h
     exact .nil .tt
    have c76_ : decide (v23 < (a2.length : Int)) = false := decide_eq_false c76
    refine .sub (.bool 30 (b := decide (v23 < (a2.length : Int))) rfl c76_) ?_
    refine .st (mk 45 [] (L39 a0 a1 a2 v23 v1 ++ [(30, .b false)]) (H9 x70 x72)) ?_
    refine .runK [] 5 fun K k => ?_; simp; refine k _ _ ?_; clear k K
    refine .tt (L40 a0 a1 a2 v1 v23 ++ [(31, .tup []), (32, .tup []), (33, .tup []), (34, .tup []), (35, .b false)]) (H9 x70 x72) ?_
    cases h
    exact .nil .tt
   clear hj
   refine .lastN (fun ((v79, v80, v81, v82, v83, v84) : (Int × Int × ByteArray × Int × Int × ByteArray)) => mk 45 [] (L40 a0 a1 a2 v1 v23) (H13 v79 v80 v81 v82 v83 v84)) h ?_ ?_ <;> clear h
   ·intro o h
    replace h := isome h; rcases h with ⟨c85, h⟩ | ⟨c85, h⟩
    ·have c85_ : v75 = true := c85
     refine .condT (b := v75) rfl c85_ ?_
     refine .sub (.bool 35 (b := v75) rfl c85_) ?_
     refine .st (mk 45 [] (L40 a0 a1 a2 v1 v23 ++ [(35, .b true)]) (H9 x70 x72)) ?_
     refine .region ?_
     refine .runK [] 4 fun K k => ?_; simp; refine k _ _ ?_; clear k K
     refine .tt (L40 a0 a1 a2 v1 v23) (H9 x72 x70) ?_
     refine .nil ?_
     cases h
     refine PostN.next ?_
     exact Sub.tt
    have c85_ : v75 = false := Bool.eq_false_iff.2 c85
    refine .condF (b := v75) rfl c85_ ?_
    refine .sub (.bool 35 (b := v75) rfl c85_) ?_
    refine .st (mk 45 [] (L40 a0 a1 a2 v1 v23 ++ [(35, .b false)]) (H9 x70 x72)) ?_
    refine .skip ?_
    cases h
    refine PostN.next ?_
    exact Sub.tt
   rintro ⟨v79, v80, v81, v82, v83, v84⟩ h
   dsimp only at h ⊢
   refine thenQ_normal ?_
   refine .seq ?_
   refine .seqR ?_
   refine .runK [] 2 fun K k => ?_; simp; refine k _ _ ?_; clear k K
   refine .tt (L41 a0 a1 a2 v1 v23 v79 v80 v81 v82 v83 v84) (H13 v79 v80 v81 v82 v83 v84) ?_
   replace h := bsome h; obtain ⟨r86, hr86, h⟩ := h
   refine .callL (d := 40) (p107 N (S61.mk v79 v80 v81) (S61.mk v82 v83 v84) r86 hr86) (by simp) rfl rfl (by simp <;> rfl) (by simp <;> rfl) ent107 (by simp <;> rfl) ?_
   refine .st (mk 45 [] (L41 a0 a1 a2 v1 v23 v79 v80 v81 v82 v83 v84 ++ [(40, .b r86)]) (H13 v79 v80 v81 v82 v83 v84)) ?_
   refine .nil ?_
   replace h := isome h; rcases h with ⟨c87, h⟩ | ⟨c87, h⟩
   ·have c87_ : r86 = true := c87
    refine .condT (b := r86) rfl c87_ ?_
    refine .sub (.bool 40 (b := r86) rfl c87_) ?_
    refine .st (mk 45 [] (L41 a0 a1 a2 v1 v23 v79 v80 v81 v82 v83 v84 ++ [(40, .b true)]) (H13 v79 v80 v81 v82 v83 v84)) ?_
    refine .seqR ?_
    refine .runK [] 1 fun K k => ?_; simp; refine k _ _ ?_; clear k K
    refine .tt [(6, .b true)] [] ?_
    refine .nil ?_
    refine .ret ?_
    cases h
    refine thenQ_pass (by simp) ?_
    refine blockQ.ret ?_
    refine thenQ_pass (by simp) ?_
    refine PostI.out (by simp) ?_
    rintro rfl
    refine blockQ.ret ?_
    refine PostJ.out (by simp) ?_
    rintro rfl
    refine thenQ_pass (by simp) ?_
    exact FinC.ret (by simp) (by simp)
   have c87_ : r86 = false := Bool.eq_false_iff.2 c87
   refine .condF (b := r86) rfl c87_ ?_
   refine .sub (.bool 40 (b := r86) rfl c87_) ?_
   refine .st (mk 45 [] (L41 a0 a1 a2 v1 v23 v79 v80 v81 v82 v83 v84 ++ [(40, .b false)]) (H13 v79 v80 v81 v82 v83 v84)) ?_
   refine .skip ?_
   refine thenQ_normal ?_
   refine .seqR ?_
   refine .runK [] 2 fun K k => ?_; simp; refine k _ _ ?_; clear k K
   refine .tt (L42 a0 a1 a2 v1 v23 v82 v83 v84 v79 v80 v81) [] ?_
   replace h := bsome h; obtain ⟨r88, hr88, h⟩ := h
   refine .callL (d := 43) (p107 N (S61.mk v82 v83 v84) (S61.mk v79 v80 v81) r88 hr88) (by simp) rfl rfl (by simp <;> rfl) (by simp <;> rfl) ent107 (by simp <;> rfl) ?_
   refine .st (mk 45 [] (L42 a0 a1 a2 v1 v23 v82 v83 v84 v79 v80 v81 ++ [(43, .b r88)]) []) ?_
   refine .nil ?_
   replace h := isome h; rcases h with ⟨c89, h⟩ | ⟨c89, h⟩
   ·have c89_ : r88 = true := c89
    refine .condT (b := r88) rfl c89_ ?_
    refine .sub (.bool 43 (b := r88) rfl c89_) ?_
    refine .st (mk 45 [] (L42 a0 a1 a2 v1 v23 v82 v83 v84 v79 v80 v81 ++ [(43, .b true)]) []) ?_
    refine .seqR ?_
    refine .runK [] 1 fun K k => ?_; simp; refine k _ _ ?_; clear k K
    refine .tt [(6, .b false)] [] ?_
    refine .nil ?_
    refine .ret ?_
    cases h
    refine blockQ.ret ?_
    refine thenQ_pass (by simp) ?_
    refine PostI.out (by simp) ?_
    rintro rfl
    refine blockQ.ret ?_
    refine PostJ.out (by simp) ?_
    rintro rfl
    refine thenQ_pass (by simp) ?_
    exact FinC.ret (by simp) (by simp)
   have c89_ : r88 = false := Bool.eq_false_iff.2 c89
   refine .condF (b := r88) rfl c89_ ?_
   refine .sub (.bool 43 (b := r88) rfl c89_) ?_
   refine .st (mk 45 [] (L42 a0 a1 a2 v1 v23 v82 v83 v84 v79 v80 v81 ++ [(43, .b false)]) []) ?_
   refine .skip ?_
   refine blockQ.normal ?_
   refine thenQ_normal ?_
   refine .region ?_
   replace h := bsome h; obtain ⟨v90, hv90, h⟩ := h
   have hv90 := chkI_some hv90
   refine .runK [] 2 fun K k => ?_; simp [hv90]; refine k _ _ ?_; clear k K
   refine .tt (L38 a0 a1 a2 v1 v90) [] ?_
   refine .nil ?_
   cases h
   refine PostI.next ?_
   exact Sub.tt
  have c69_ : decide (v23 < v1) = false := decide_eq_false c69
  refine .condF (b := decide (v23 < v1)) rfl c69_ ?_
  refine .sub (.bool 16 (b := decide (v23 < v1)) rfl c69_) ?_
  refine .st (mk 45 [] (L38 a0 a1 a2 v1 v23 ++ [(16, .b false)]) []) ?_
  refine .exit ?_
  cases h
  refine thenQ_pass (by simp) ?_
  refine PostI.out (by simp) ?_
  rintro rfl
  refine blockQ.hit ?_
  refine PostJ.next ?_
  exact Sub.tt
 rintro ⟨⟩ h
 refine thenQ_normal ?_
 refine .seqR ?_
 refine .runK [] 1 fun K k => ?_; simp; refine k _ _ ?_; clear k K
 refine .tt [(6, .b false)] [] ?_
 refine .nil ?_
 refine .ret ?_
 cases h
 exact FinC.ret (by simp) (by simp)
/-- slices.Delete[[]stemma/api.Row,stemma/api.Row] -/
def d80 (_ : Nat) (a0 : (List (List S61))) (a1 a2 : Int) : Option (List (List S61)) := delL a0 a1 a2
theorem p80 (N : Nat) (a0 : (List (List S61))) (a1 a2 : Int) (r : (List (List S61))) (h : d80 N a0 a1 a2 = some r) : FunM Tryz.prog 80 [.ref 1000 0 a0.length, .d (.lit (.int .i64 a1)), .d (.lit (.int .i64 a2))] [(1000, some (.arr 57 1 (a0.map (cL cS61))))] [] (.ref 1000 0 r.length) [(1000, .arr 57 1 (r.map (cL cS61)))] := by
 obtain ⟨i, j, rfl, rfl, hij, hj, hrl, hr⟩ := delL_some (cL cS61) h
 have hes : ∀ x ∈ a0.map (cL cS61), x.length = 1 := fun x hx => by
  obtain ⟨y, _, rfl⟩ := List.mem_map.1 hx
  rfl
 rw [hr, hrl]
 have hel : (a0.map (cL cS61)).length = a0.length := by simp
 rw [← hel] at hj hrl ⊢
 clear hel h hr hrl
 generalize a0.map (cL cS61) = es at *
 refine FunM.enter 33 [(0, .ref 1000 0 es.length), (1, .i i), (2, .i j)] Tryz.func80 rfl (of_decide_eq_true rfl) rfl rfl ?_
 refine .goR [] 1 fun K k => ?_; simp; refine k _ ?_; clear k K
 refine .seqR ?_
 refine .runK [] 5 fun K k => ?_; simp; refine k _ _ ?_; clear k K
 have hjn : (j : Int) ≤ es.length := by omega
 have hin : (i : Int) ≤ j := by omega
 refine .slice3 (id := 1000) (off := 0) (len := es.length) (mq := es.length) (hq := j) (lq := i) (by simp) rfl ty48 rfl ty57 rfl (by simp [bnd]) (by simp [bnd, hj]) (by simp [bnd]; omega) ?_
 refine .nil ?_
 have hne : ¬ ((i : Int) = j) := by omega
 refine .seq ?_
 refine .goR [] 3 fun K k => ?_; simp; refine k _ ?_; clear k K
 refine .condK fun K1 K2 k1 k2 => ?_; simp [hne]; refine k2 ?_; clear k1 k2 K1 K2
 refine .skip ?_
 refine thenQ_normal ?_
 refine .goR [] 3 fun K k => ?_; simp; refine k _ ?_; clear k K
 refine .seqT 6 (by kernel_rfl) (by kernel_rfl) fun K k => ?_
 simp [show i ≤ es.length by omega, hj]; refine k _ _ ?_; clear k K
 have htk : List.take (es.length - j) (es.drop j) = es.drop j := List.take_of_length_le (by simp)
 refine .cut (mk 33 [] [(0, .ref 1000 0 (i + (es.length - j))), (7, .i es.length)] [(1000, some (.arr 57 1 (es.take i ++ (es.drop j ++ es.drop (i + (es.length - j))))))]) ?_ fun S' hS => AW.sub hS ?_
 ·by_cases hje : j = es.length
  ·have hdn : es.drop j = [] := by rw [hje]; simp
   refine Chain.appNo (id := 1000) (len := i) (es := es) (te := ⟨_, 1, 24, _⟩) (by simp) rfl rfl rfl rfl ty48 rfl ty57 rfl rfl (by simp [srcV, hje]) (by omega) (by omega) ?_
   refine .runK [] 1 fun K k => ?_; simp; refine k _ _ ?_; clear k K
   refine .nil ?_
   exact Sub.table (by simp [hje]) (by simp [hje])
  ·refine Chain.appIn (id := 1000) (len := i) (es := es) (ys := es.drop j) (te := ⟨_, 1, 24, _⟩) (by simp) rfl rfl rfl rfl ty48 rfl ty57 rfl rfl (by simp [srcV, show j + (es.length - j) ≤ es.length by omega]) (fun y hy => hes y (List.mem_of_mem_drop hy)) (by simp; omega) (by simp; omega) ?_
   refine .runK [] 1 fun K k => ?_; simp; refine k _ _ ?_; clear k K
   refine .nil ?_
   exact Sub.table (by simp) (by simp)
 have hl2 : (es.take i ++ (es.drop j ++ es.drop (i + (es.length - j)))).length = es.length := by simp; omega
 have hes2 : ∀ x ∈ (es.take i ++ (es.drop j ++ es.drop (i + (es.length - j)))), x.length = 1 := fun x hx => by
  rcases List.mem_append.1 hx with hx | hx
  ·exact hes x (List.mem_of_mem_take hx)
  ·rcases List.mem_append.1 hx with hx | hx
   ·exact hes x (List.mem_of_mem_drop hx)
   ·exact hes x (List.mem_of_mem_drop hx)
 have htk2 : (es.take i ++ (es.drop j ++ es.drop (i + (es.length - j)))).take (i + (es.length - j)) = es.take i ++ es.drop j := by
  rw [← List.append_assoc]
  exact List.take_left' (by simp; omega)
 generalize (es.take i ++ (es.drop j ++ es.drop (i + (es.length - j)))) = es2 at hl2 hes2 htk2 ⊢
 refine .seqR ?_
 refine .runK [] 4 fun K k => ?_; simp; refine k _ _ ?_; clear k K
 refine Chain.sliceX (id := 1000) (off := 0) (len := i + (es.length - j)) (es := es2) (hq := es.length) (lq := i + (es.length - j)) (te := ⟨_, 1, 24, _⟩) (by simp) rfl ty48 rfl ty57 rfl rfl (by omega) (by omega) (by simp [bnd, hl2]) (by simp [bnd]; omega) ?_
 simp
 refine Chain.clear (id := 1000) (off := i + (es.length - j)) (len := es.length - (i + (es.length - j))) (es := es2) (te := ⟨_, 1, 24, _⟩) (by simp) rfl rfl rfl rfl ty48 rfl ty57 (by simp) (by simp) rfl rfl (by omega) (by omega) ?_
 simp
 refine .nil ?_
 refine .goR [] 2 fun K k => ?_; simp; refine k _ ?_; clear k K
 have hcl : ∀ zs : List (List D), List.take (i + (es.length - j)) (es.take i ++ (es.drop j ++ zs)) = es.take i ++ es.drop j := fun zs => by
  rw [← List.append_assoc]
  exact List.take_left' (by simp; omega)
 refine .sub (.cut 1000 (i + (es.length - j)) rfl) ?_
 refine .sub (S' := mk 33 [] [(6, .ref 1000 0 (i + (es.length - j)))] [(1000, some (.arr 57 1 (es.take i ++ es.drop j)))]) (by simp [htk2]; exact Sub.table (by simp) (by simp [hcl])) ?_
 refine .ret ?_
 exact FinF.ret (by simp) (by simp)

/-- stemma/stemlaw3.ordered -/
def d33 (N : Nat) (a0 : (List (List S61))) (a1 : S65) : Option (List (List S61)) :=
 (d78 N a0).bind fun r1 =>
 Option.bind (α := List (List S61)) (
  iterN (σ := ((List (List S61)) × (List (List S61)))) (ρ := List (List S61)) (fun ((l65, l66) : ((List (List S61)) × (List (List S61)))) =>
   if (l65.length : Int) > 0 then (
    Option.bind (α := Int) (
     iterN (σ := (Int × Int)) (ρ := Int) (fun ((v216, v217) : (Int × Int)) =>
      if v217 < (l65.length : Int) then (
       (idx l65 v217).bind fun x244 =>
       (d35 N x244 a1.Columns).bind fun r246 =>
       (idx l65 v216).bind fun x247 =>
       (d35 N x247 a1.Columns).bind fun r249 =>
       (d79 N r246 r249 a1.Descending).bind fun r250 =>
       if r250 = true then (
        (chkI (v217 + 1)).bind fun v252 =>
        some (.inl (v217, v252))
       ) else
       (chkI (v217 + 1)).bind fun v253 =>
       some (.inl (v216, v253))
      ) else
      some (.inr v216)
     ) N (0, 0)
    ) fun (v242 : Int) =>
    (idx l65 v242).bind fun x254 =>
    (appL 24 l66 [x254]).bind fun _l256 =>
    (chkI (v242 + 1)).bind fun v257 =>
    (d80 N l65 v242 v257).bind fun l258 =>
    some (.inl (l258, (l66 ++ [x254])))
   ) else
   some (.inr l66)
  ) N (r1, ([] : List (List S61)))
 ) fun (l195 : List (List S61)) =>
 some l195
set_option maxRecDepth 100000 in
set_option maxHeartbeats 4000000 in
theorem p33 (N : Nat) (a0 : (List (List S61))) (a1 : S65) (r : (List (List S61))) (h : d33 N a0 a1 = some r) : FunC Tryz.prog 33 [.d (.sl (a0.map (cL cS61))), .agg [.d (.sl (a1.Columns.map (cI .i64))), .d (.sl (a1.Descending.map cB))]] (.d (.sl (r.map (cL cS61)))) := by
 unfold d33 at h
 refine FunC.enter 51 [(0, .d (.sl (a0.map (cL cS61)))), (1, .agg [.d (.sl (a1.Columns.map (cI .i64))), .d (.sl (a1.Descending.map cB))])] (by simp) Tryz.func33 rfl (of_decide_eq_true rfl) rfl rfl ?_
 refine .seqR ?_
 refine .runK [] 2 fun K k => ?_; simp; refine k _ _ ?_; clear k K
 refine .tt [(0, .d (.sl (a0.map (cL cS61)))), (3, .ptr 3 0 0)] (H11 a1) ?_
 refine .nil ?_
 refine .seqR ?_
 refine .runK [] 1 fun K k => ?_; simp; refine k _ _ ?_; clear k K
 refine .tt [(3, .ptr 3 0 0), (9, .d (.sl (a0.map (cL cS61))))] (H11 a1) ?_
 replace h := bsome h; obtain ⟨r1, hr1, h⟩ := h
 refine .callO (d := 10) (p78 N a0 r1 hr1) (by simp) rfl rfl (by simp <;> rfl) (by simp <;> rfl) ent78 (by simp) ⟨by simp, by simp⟩ ?_
 refine .st (mk 51 [] [(3, .ptr 3 0 0), (9, .d (.sl (a0.map (cL cS61)))), (10, .ref 10 0 r1.length)] (H16 a1 r1)) ?_
 refine .runK [] 1 fun K k => ?_; simp; refine k _ _ ?_; clear k K
 refine .tt [(3, .ptr 3 0 0), (5, .ref 10 0 r1.length)] (H16 a1 r1) ?_
 refine .nil ?_
 refine .seqR ?_
 refine .runK [] 1 fun K k => ?_; simp; refine k _ _ ?_; clear k K
 refine .tt [(3, .ptr 3 0 0), (5, .ref 10 0 r1.length), (6, .d (.lit (.slice none 0 0)))] (H16 a1 r1) ?_
 refine .nil ?_
 refine .seqN (fun (l195 : List (List S61)) => mk 51 [] [(6, .ref 44 0 l195.length)] [(44, R57 l195)]) h ?_ ?_ <;> clear h
 ·intro o h
  refine .block ?_
  refine .iter (fun ((l65, l66) : ((List (List S61)) × (List (List S61)))) => mk 51 [] (L43 l65.length l66.length) (H6 a1 l65 l66)) h (Sub.trans (Sub.nilOwn (t := 6) (id := 44) (T := 57) (n := 1) rfl rfl (by decide)) (by simp; exact Sub.tt)) ?_
  clear h
  rintro ⟨l65, l66⟩ x h
  dsimp only at h ⊢
  refine .seq ?_
  refine .seqR ?_
  refine .runK [] 3 fun K k => ?_; simp; refine k _ _ ?_; clear k K
  refine .tt (L43 l65.length l66.length ++ [(13, .b (decide ((l65.length : Int) > 0)))]) (H6 a1 l65 l66) ?_
  refine .nil ?_
  replace h := isome h; rcases h with ⟨c196, h⟩ | ⟨c196, h⟩
  ·have c196_ : decide ((l65.length : Int) > 0) = true := decide_eq_true c196
   refine .condT (b := decide ((l65.length : Int) > 0)) rfl c196_ ?_
   refine .sub (.bool 13 (b := decide ((l65.length : Int) > 0)) rfl c196_) ?_
   refine .st (mk 51 [] (L43 l65.length l66.length ++ [(13, .b true)]) (H6 a1 l65 l66)) ?_
   refine .skip ?_
   refine thenQ_normal ?_
   refine .block ?_
   refine .seqR ?_
   refine .runK [] 1 fun K k => ?_; simp; refine k _ _ ?_; clear k K
   refine .tt (L43 l65.length l66.length ++ [(7, .i 0)]) (H6 a1 l65 l66) ?_
   refine .nil ?_
   refine .seq ?_
   refine .seqR ?_
   refine .runK [] 3 fun K k => ?_; simp; refine k _ _ ?_; clear k K
   refine .tt (L43 l65.length l66.length ++ [(7, .i 0), (15, .i (l65.length : Int)), (16, .i 0)]) (H6 a1 l65 l66) ?_
   refine .nil ?_
   refine .lastN (fun (v242 : Int) => mk 51 [] (L43 l65.length l66.length ++ [(7, .i v242)]) (H6 a1 l65 l66)) h ?_ ?_ <;> clear h
   ·intro o h
    refine .block ?_
    refine .iter (fun ((v216, v217) : (Int × Int)) => mk 51 [] (L44 l65.length l66.length v216 v217) (H6 a1 l65 l66)) h Sub.tt ?_
    clear h
    rintro ⟨v216, v217⟩ x h
    dsimp only at h ⊢
    refine .seqR ?_
    refine .runK [] 1 fun K k => ?_; simp; refine k _ _ ?_; clear k K
    refine .tt (L44 l65.length l66.length v216 v217 ++ [(17, .b (decide (v217 < (l65.length : Int))))]) (H6 a1 l65 l66) ?_
    refine .nil ?_
    refine .seq ?_
    replace h := isome h; rcases h with ⟨c243, h⟩ | ⟨c243, h⟩
    ·have c243_ : decide (v217 < (l65.length : Int)) = true := decide_eq_true c243
     refine .condT (b := decide (v217 < (l65.length : Int))) rfl c243_ ?_
     refine .sub (.bool 17 (b := decide (v217 < (l65.length : Int))) rfl c243_) ?_
     refine .st (mk 51 [] (L44 l65.length l66.length v216 v217 ++ [(17, .b true)]) (H6 a1 l65 l66)) ?_
     refine .skip ?_
     refine thenQ_normal ?_
     refine .seq ?_
     refine .block ?_
     refine .seqR ?_
     refine .runK [] 2 fun K k => ?_; simp; refine k _ _ ?_; clear k K
     refine .tt (L45 l65.length l66.length v216 v217) (H6 a1 l65 l66) ?_
     refine .nil ?_
     replace h := bsome h; obtain ⟨x244, hx244, h⟩ := h
     obtain ⟨k245, hx244k, hx244, hx244a, hx244b⟩ := idx_some hx244
     replace h := bsome h; obtain ⟨r246, hr246, h⟩ := h
     replace h := bsome h; obtain ⟨x247, hx247, h⟩ := h
     obtain ⟨k248, hx247k, hx247, hx247a, hx247b⟩ := idx_some hx247
     replace h := bsome h; obtain ⟨r249, hr249, h⟩ := h
     replace h := bsome h; obtain ⟨r250, hr250, h⟩ := h
     refine .seqAnyS [[], [], [0, 1], [0, 1, 2], [], [4], [0, 1, 2, 3, 4, 5], [], [], [7, 8], [7, 8, 9], [], [11], [0, 1, 2, 3, 4, 5, 6, 7, 8, 9, 10, 11, 12], [], [14], [0, 1, 2, 3, 4, 5, 6, 7, 8, 9, 10, 11, 12, 13, 14, 15]] (fun (b : Nat → Bool) => mk 51 [] [(3, .ptr 3 0 0), (5, .ref 10 0 l65.length), (6, .ref 44 0 l66.length), (7, .i v216), (8, .i v217), (15, .i (l65.length : Int)), (16, .i v217), (19, (if b 0 then .ref 10 0 l65.length else .junk)), (20, (if b 1 then .i v217 else .junk)), (21, (if b 2 then .ptr 10 k245 0 else .junk)), (22, (if b 3 then .d (.sl (x244.map cS61)) else .junk)), (23, (if b 4 then .ptr 3 0 0 else .junk)), (24, (if b 5 then .d (.sl (a1.Columns.map (cI .i64))) else .junk)), (25, (if b 6 then .d (.sl (r246.map cS61)) else .junk)), (26, (if b 7 then .ref 10 0 l65.length else .junk)), (27, (if b 8 then .i v216 else .junk)), (28, (if b 9 then .ptr 10 k248 0 else .junk)), (29, (if b 10 then .d (.sl (x247.map cS61)) else .junk)), (30, (if b 11 then .ptr 3 0 0 else .junk)), (31, (if b 12 then .d (.sl (a1.Columns.map (cI .i64))) else .junk)), (32, (if b 13 then .d (.sl (r249.map cS61)) else .junk)), (33, (if b 14 then .ptr 3 0 1 else .junk)), (34, (if b 15 then .d (.sl (a1.Descending.map cB)) else .junk)), (35, (if b 16 then .b r250 else .junk))] (H6 a1 l65 l66)) (mk 51 [] (L45 l65.length l66.length v216 v217 ++ [(35, .b r250)]) (H6 a1 l65 l66)) (by kernel_rfl) (by kernel_rfl) Sub.tt (Steps.cons ?_ (Steps.cons ?_ (Steps.cons ?_ (Steps.cons ?_ (Steps.cons ?_ (Steps.cons ?_ (Steps.cons ?_ (Steps.cons ?_ (Steps.cons ?_ (Steps.cons ?_ (Steps.cons ?_ (Steps.cons ?_ (Steps.cons ?_ (Steps.cons ?_ (Steps.cons ?_ (Steps.cons ?_ (Steps.cons ?_ (Steps.nil)))))))))))))))))) ?_ ?_
     iterate 2
      ·intro b h0 ha hd
       have T := fct h0 ha hd; simp at T
       refine .runK [] 1 fun K k => ?_; simp [T]; refine k _ _ ?_; clear k K
       exact .nil (.table (by simp [T]) (by simp))
     ·intro b h0 ha hd
      have T := fct h0 ha hd; simp at T
      refine .runK [] 1 fun K k => ?_; simp [T, hx244k, hx244a, hx244b]; refine k _ _ ?_; clear k K
      exact .nil (.table (by simp [T]) (by simp))
     ·intro b h0 ha hd
      have T := fct h0 ha hd; simp at T
      refine .runK [] 1 fun K k => ?_; simp [T, hx244]; refine k _ _ ?_; clear k K
      exact .nil (.table (by simp [T]) (by simp))
     iterate 2
      ·intro b h0 ha hd
       have T := fct h0 ha hd; simp at T
       refine .runK [] 1 fun K k => ?_; simp [T]; refine k _ _ ?_; clear k K
       exact .nil (.table (by simp [T]) (by simp))
     ·intro b h0 ha hd
      have T := fct h0 ha hd; simp at T
      simp only [T, if_true, if_false, Bool.false_eq_true]
      refine .callC (d := 25) (p35 N x244 a1.Columns r246 hr246) (by simp) rfl rfl (by simp <;> rfl) (by simp <;> rfl) ent35 (by simp) (.inl ⟨by simp, by simp⟩) ?_
      exact .nil (by simp [T]; exact Sub.table (by simp) (by simp))
     iterate 2
      ·intro b h0 ha hd
       have T := fct h0 ha hd; simp at T
       refine .runK [] 1 fun K k => ?_; simp [T]; refine k _ _ ?_; clear k K
       exact .nil (.table (by simp [T]) (by simp))
     ·intro b h0 ha hd
      have T := fct h0 ha hd; simp at T
      refine .runK [] 1 fun K k => ?_; simp [T, hx247k, hx247a, hx247b]; refine k _ _ ?_; clear k K
      exact .nil (.table (by simp [T]) (by simp))
     ·intro b h0 ha hd
      have T := fct h0 ha hd; simp at T
      refine .runK [] 1 fun K k => ?_; simp [T, hx247]; refine k _ _ ?_; clear k K
      exact .nil (.table (by simp [T]) (by simp))
     iterate 2
      ·intro b h0 ha hd
       have T := fct h0 ha hd; simp at T
       refine .runK [] 1 fun K k => ?_; simp [T]; refine k _ _ ?_; clear k K
       exact .nil (.table (by simp [T]) (by simp))
     ·intro b h0 ha hd
      have T := fct h0 ha hd; simp at T
      simp only [T, if_true, if_false, Bool.false_eq_true]
      refine .callC (d := 32) (p35 N x247 a1.Columns r249 hr249) (by simp) rfl rfl (by simp <;> rfl) (by simp <;> rfl) ent35 (by simp) (.inl ⟨by simp, by simp⟩) ?_
      exact .nil (by simp [T]; exact Sub.table (by simp) (by simp))
     iterate 2
      ·intro b h0 ha hd
       have T := fct h0 ha hd; simp at T
       refine .runK [] 1 fun K k => ?_; simp [T]; refine k _ _ ?_; clear k K
       exact .nil (.table (by simp [T]) (by simp))
     ·intro b h0 ha hd
      have T := fct h0 ha hd; simp at T
      simp only [T, if_true, if_false, Bool.false_eq_true]
      refine .callL (d := 35) (p79 N r246 r249 a1.Descending r250 hr250) (by simp) rfl rfl (by simp <;> rfl) (by simp <;> rfl) ent79 (by simp <;> rfl) ?_
      exact .nil (by simp [T]; exact Sub.table (by simp) (by simp))
     ·intro b hb
      have t0 := hb 0 (by decide)
      have t1 := hb 1 (by decide)
      have t2 := hb 2 (by decide)
      have t3 := hb 3 (by decide)
      have t4 := hb 4 (by decide)
      have t5 := hb 5 (by decide)
      have t6 := hb 6 (by decide)
      have t7 := hb 7 (by decide)
      have t8 := hb 8 (by decide)
      have t9 := hb 9 (by decide)
      have t10 := hb 10 (by decide)
      have t11 := hb 11 (by decide)
      have t12 := hb 12 (by decide)
      have t13 := hb 13 (by decide)
      have t14 := hb 14 (by decide)
      have t15 := hb 15 (by decide)
      have t16 := hb 16 (by decide)
      exact Sub.table (by simp [t0, t1, t2, t3, t4, t5, t6, t7, t8, t9, t10, t11, t12, t13, t14, t15, t16]) (by simp)
     skip
     replace h := isome h; rcases h with ⟨c251, h⟩ | ⟨c251, h⟩
     ·have c251_ : r250 = true := c251
      refine .condT (b := r250) rfl c251_ ?_
      refine .sub (.bool 35 (b := r250) rfl c251_) ?_
      refine .st (mk 51 [] (L45 l65.length l66.length v216 v217 ++ [(35, .b true)]) (H6 a1 l65 l66)) ?_
      refine .region ?_
      refine .runK [] 2 fun K k => ?_; simp; refine k _ _ ?_; clear k K
      refine .tt (L43 l65.length l66.length ++ [(7, .i v217), (15, .i (l65.length : Int)), (16, .i v217)]) (H6 a1 l65 l66) ?_
      refine .nil ?_
      refine blockQ.normal ?_
      refine thenQ_normal ?_
      refine .region ?_
      replace h := bsome h; obtain ⟨v252, hv252, h⟩ := h
      have hv252 := chkI_some hv252
      refine .runK [] 2 fun K k => ?_; simp [hv252]; refine k _ _ ?_; clear k K
      refine .tt (L44 l65.length l66.length v217 v252) (H6 a1 l65 l66) ?_
      refine .nil ?_
      cases h
      refine PostI.next ?_
      exact Sub.tt
     have c251_ : r250 = false := Bool.eq_false_iff.2 c251
     refine .condF (b := r250) rfl c251_ ?_
     refine .sub (.bool 35 (b := r250) rfl c251_) ?_
     refine .st (mk 51 [] (L45 l65.length l66.length v216 v217 ++ [(35, .b false)]) (H6 a1 l65 l66)) ?_
     refine .skip ?_
     refine blockQ.normal ?_
     refine thenQ_normal ?_
     refine .region ?_
     replace h := bsome h; obtain ⟨v253, hv253, h⟩ := h
     have hv253 := chkI_some hv253
     refine .runK [] 2 fun K k => ?_; simp [hv253]; refine k _ _ ?_; clear k K
     refine .tt (L44 l65.length l66.length v216 v253) (H6 a1 l65 l66) ?_
     refine .nil ?_
     cases h
     refine PostI.next ?_
     exact Sub.tt
    have c243_ : decide (v217 < (l65.length : Int)) = false := decide_eq_false c243
    refine .condF (b := decide (v217 < (l65.length : Int))) rfl c243_ ?_
    refine .sub (.bool 17 (b := decide (v217 < (l65.length : Int))) rfl c243_) ?_
    refine .st (mk 51 [] (L44 l65.length l66.length v216 v217 ++ [(17, .b false)]) (H6 a1 l65 l66)) ?_
    refine .exit ?_
    cases h
    refine thenQ_pass (by simp) ?_
    refine PostI.out (by simp) ?_
    rintro rfl
    refine blockQ.hit ?_
    refine PostN.next ?_
    exact Sub.tt
   rintro v242 h
   refine thenQ_normal ?_
   refine .seqR ?_
   replace h := bsome h; obtain ⟨x254, hx254, h⟩ := h
   obtain ⟨k255, hx254k, hx254, hx254a, hx254b⟩ := idx_some hx254
   replace h := bsome h; obtain ⟨l256, hl256, h⟩ := h
   obtain ⟨hl256a, hl256⟩ := appL_some hl256
   subst hl256
   try simp only [List.length_cons, List.length_nil, Nat.zero_add] at hl256a
   refine .runK [43] 8 fun K k => ?_; simp [hx254, hx254k, hx254a, hx254b, hl256a]; refine k _ _ ?_; clear k K
   refine .tt [(3, .ptr 3 0 0), (5, .ref 10 0 l65.length), (6, .ref 44 0 ((l66 ++ [x254]).length)), (7, .i v242)] [(3, some (.box [.d (.sl (a1.Columns.map (cI .i64))), .d (.sl (a1.Descending.map cB))])), (10, R57 l65), (44, R57 (l66 ++ [x254]))] ?_
   refine .nil ?_
   refine .region ?_
   replace h := bsome h; obtain ⟨v257, hv257, h⟩ := h
   have hv257 := chkI_some hv257
   refine .runK [] 4 fun K k => ?_; simp [hv257]; refine k _ _ ?_; clear k K
   refine .tt [(3, .ptr 3 0 0), (6, .ref 44 0 ((l66 ++ [x254]).length)), (45, .ref 10 0 l65.length), (46, .i v242), (48, .i v257)] [(3, some (.box [.d (.sl (a1.Columns.map (cI .i64))), .d (.sl (a1.Descending.map cB))])), (10, R57 l65), (44, R57 (l66 ++ [x254]))] ?_
   replace h := bsome h; obtain ⟨l258, hl258, h⟩ := h
   refine .callF (p80 N l65 v242 v257 l258 hl258) [(10, 1000)] [] [(1000, 10)] [(10, .arr 57 1 (l258.map (cL cS61)))] (.ref 10 0 l258.length) (by simp) rfl (by simp <;> rfl) (by simp) (by simp) (by simp) (by simp) (by simp) ent80 (by simp) (by simp) (by simp) (by simp) (by simp) (by simp) ?_
   refine .st (mk 51 [] [(3, .ptr 3 0 0), (6, .ref 44 0 ((l66 ++ [x254]).length)), (46, .i v242), (48, .i v257), (49, .ref 10 0 l258.length)] [(3, some (.box [.d (.sl (a1.Columns.map (cI .i64))), .d (.sl (a1.Descending.map cB))])), (10, R57 l258), (44, R57 (l66 ++ [x254]))]) ?_
   refine .runK [] 1 fun K k => ?_; simp; refine k _ _ ?_; clear k K
   refine .tt [(3, .ptr 3 0 0), (5, .ref 10 0 l258.length), (6, .ref 44 0 ((l66 ++ [x254]).length))] [(3, some (.box [.d (.sl (a1.Columns.map (cI .i64))), .d (.sl (a1.Descending.map cB))])), (10, R57 l258), (44, R57 (l66 ++ [x254]))] ?_
   refine .nil ?_
   cases h
   refine blockQ.normal ?_
   refine PostI.next ?_
   exact Sub.tt
  have c196_ : decide ((l65.length : Int) > 0) = false := decide_eq_false c196
  refine .condF (b := decide ((l65.length : Int) > 0)) rfl c196_ ?_
  refine .sub (.bool 13 (b := decide ((l65.length : Int) > 0)) rfl c196_) ?_
  refine .st (mk 51 [] (L43 l65.length l66.length ++ [(13, .b false)]) (H6 a1 l65 l66)) ?_
  refine .exit ?_
  cases h
  refine thenQ_pass (by simp) ?_
  refine PostI.out (by simp) ?_
  rintro rfl
  refine blockQ.hit ?_
  refine PostN.next ?_
  exact Sub.tt
 rintro l195 h
 refine .seqR ?_
 refine .runK [] 2 fun K k => ?_; simp; refine k _ _ ?_; clear k K
 refine .tt [(4, .ref 44 0 l195.length)] [(44, R57 l195)] ?_
 refine .nil ?_
 refine .sub (.freeze 44 rfl) ?_
 refine .st (mk 51 [] [(4, .d (.sl (l195.map (cL cS61))))] []) ?_
 refine .ret ?_
 cases h
 exact FinC.ret (by simp) (by simp)
/-- slices.Insert of one element -/
def d87 (_N : Nat) (a0 : List (List S61)) (a1 : Int) (a2 : List (List S61)) : Option (List (List S61)) := insL 24 a0 a1 a2
theorem p87 (N : Nat) (a0 : List (List S61)) (a1 : Int) (a2 : List (List S61)) (r : List (List S61)) (h : d87 N a0 a1 a2 = some r) :
  FunM Tryz.prog 87 [.ref 1000 0 a0.length, .i a1, .ref 1001 0 a2.length] [(1000, R57 a0), (1001, R57 a2)] [] (.ref 1000 0 r.length) [(1000, .arr 57 1 (r.map (cL cS61)))] :=
 ins_funM (cL cS61) (fun _ => rfl) a0 a2 a1 r h

end Go.Proofs.YtimkkjiplioohaaGreatDoor
