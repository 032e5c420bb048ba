/- Functions of the program as functional programs; the code computes them. -/
import Derived.Test.YtimkkjiplioohaaGreatDoorGa12
namespace Go.Proofs.YtimkkjiplioohaaGreatDoor
set_option maxRecDepth 100000
set_option maxHeartbeats 4000000
open Go.Ab Go.Rp
attribute [-simp] List.all_eq_true Array.all_toList Array.all_eq_true
def d35 (N : Nat) (a0 : (List S61)) (a1 : (List Int)) : Option (List S61) :=
 Option.bind (α := List S61) (
  iterN (σ := ((List S61) × Int)) (ρ := List S61) (fun ((l7, v8) : ((List S61) × Int)) =>
   if v8 < (a1.length : Int) then (
    (idx a1 v8).bind fun x27 =>
    (idx a0 x27).bind fun x29 =>
    (appL 32 l7 [x29]).bind fun _l31 =>
    (chkI (v8 + 1)).bind fun v32 =>
    some (.inl ((l7 ++ [x29]), v32))
   ) else
   some (.inr l7)
  ) N (([] : List S61), 0)
 ) fun (l25 : List S61) =>
 some l25
theorem p35 (N : Nat) (a0 : (List S61)) (a1 : (List Int)) (r : (List S61)) (h : d35 N a0 a1 = some r) : FunO Tryz.prog 35 [.s61 a0, .si a1] (.ref 0 0 r.length) (.arr 61 3 (r.map cS61)) := by
 unfold d35 at h
 refine FunO.enter 24 [(0, .s61 a0), (1, .si a1)] Tryz.func35 rfl (of_decide_eq_true rfl) rfl rfl ?_
 refine .seqR ?_
 refine .rk 1 fun K k => ?_; simp; refine k ?_
 refine .tt [(0, .s61 a0), (1, .si a1)] [] ?_
 refine .nil (.seqR ?_)
 refine .rk 2 fun K k => ?_; simp; refine k ?_
 refine .tt [(0, .s61 a0), (1, .si a1), (5, .ref 8 0 (([] : List S61).length))] [(8, R61 ([] : List S61))] ?_
 refine .nil (.seq (.seqR ?_))
 refine .rk 3 fun K k => ?_; simp; refine k ?_
 refine .tt [(0, .s61 a0), (5, .ref 8 0 (([] : List S61).length)), (9, .si a1), (10, .i (a1.length : Int)), (11, .i 0)] [(8, R61 ([] : List S61))] ?_
 refine .nil ?_
 refine .lastN (fun (l25 : List S61) => mk 24 [] [(5, .ref 8 0 l25.length)] [(8, R61 l25)]) h ?_ ?_ <;> clear h
 ·intro o h
  refine .block ?_
  refine .iter (fun ((l7, v8) : ((List S61) × Int)) => mk 24 [] [(0, .s61 a0), (5, .ref 8 0 l7.length), (9, .si a1), (10, .i (a1.length : Int)), (11, .i v8)] [(8, R61 l7)]) h Sub.tt ?_
  clear h
  rintro ⟨l7, v8⟩ x h
  dsimp only at h ⊢
  refine .seqR ?_
  refine .rk 1 fun K k => ?_; simp; refine k ?_
  refine .tt [(0, .s61 a0), (5, .ref 8 0 l7.length), (9, .si a1), (10, .i (a1.length : Int)), (11, .i v8), (12, .b (decide (v8 < (a1.length : Int))))] [(8, R61 l7)] ?_
  refine .nil (.seq ?_)
  replace h := isome h; rcases h with ⟨c26, h⟩ | ⟨c26, h⟩
  ·have c26_ : decide (v8 < (a1.length : Int)) = true := decide_eq_true c26
   refine .condT rfl c26_ ?_
   refine .skip (thenQ_normal (.seq (.block (.seqR ?_))))
   replace h := bsome h; obtain ⟨x27, hx27, h⟩ := h
   obtain ⟨k28, hx27k, hx27, hx27a, hx27b⟩ := idx_some hx27
   refine .rk 3 fun K k => ?_; simp [hx27, hx27k, hx27a]; refine k ?_
   refine .tt [(0, .s61 a0), (5, .ref 8 0 l7.length), (7, .i x27), (9, .si a1), (10, .i (a1.length : Int)), (11, .i v8)] [(8, R61 l7)] ?_
   refine .nil (.region ?_)
   replace h := bsome h; obtain ⟨x29, hx29, h⟩ := h
   obtain ⟨k30, hx29k, hx29, hx29a, hx29b⟩ := idx_some hx29
   replace h := bsome h; obtain ⟨l31, hl31, h⟩ := h
   obtain ⟨hl31a, hl31⟩ := appL_some hl31
   subst hl31
   try simp only [List.length_cons, List.length_nil, Nat.zero_add] at hl31a
   refine .runK [20] 8 fun K k => ?_; simp [hx29, hx29k, hx29a, hl31a]; refine k _ _ ?_; clear k K
   refine .tt [(0, .s61 a0), (5, .ref 8 0 ((l7 ++ [x29]).length)), (9, .si a1), (10, .i (a1.length : Int)), (11, .i v8)] [(8, R61 (l7 ++ [x29]))] ?_
   refine .nil (blockQ.normal (thenQ_normal (.region ?_)))
   replace h := bsome h; obtain ⟨v32, hv32, h⟩ := h
   have hv32 := chkI_some hv32
   refine .rk 2 fun K k => ?_; simp [hv32]; refine k ?_
   refine .tt [(0, .s61 a0), (5, .ref 8 0 ((l7 ++ [x29]).length)), (9, .si a1), (10, .i (a1.length : Int)), (11, .i v32)] [(8, R61 (l7 ++ [x29]))] ?_
   refine .nil ?_
   cases h
   refine PostI.next ?_
   exact Sub.tt
  have c26_ : decide (v8 < (a1.length : Int)) = false := decide_eq_false c26
  refine .condF rfl c26_ ?_
  refine .exit ?_
  cases h
  refine thenQ_pass (by simp) ?_
  refine PostI.out (by simp) ?_
  rintro rfl
  refine blockQ.hit (PostN.next ?_)
  exact Sub.tt
 rintro l25 h
 refine thenQ_normal (.seqR ?_)
 refine .rk 2 fun K k => ?_; simp; refine k ?_
 refine .tt [(4, .ref 8 0 l25.length)] [(8, R61 l25)] ?_
 refine .nil (.ret ?_)
 obtain rfl := Option.some.inj h
 exact FinO.ret (.ref 8 0 l25.length) 8 (by simp) (by simp) (by simp) (by simp) rfl
def d107 (_N : Nat) (a0 : S61) (a1 : S61) : Option Bool :=
 if (a0.Kind != a1.Kind) then (
  some (decide (a0.Kind < a1.Kind))
 ) else
 if (a0.Int != a1.Int) then (
  some (decide (a0.Int < a1.Int))
 ) else
 some (Op.bytesLess a0.Text.toList a1.Text.toList)
theorem p107 (N : Nat) (a0 : S61) (a1 : S61) (r : Bool) (h : d107 N a0 a1 = some r) : FunC Tryz.prog 107 [.agg [.i a0.Kind, .i a0.Int, .s a0.Text], .agg [.i a1.Kind, .i a1.Int, .s a1.Text]] (.b r) := by
 unfold d107 at h
 refine FunC.enter 30 [(0, .agg [.i a0.Kind, .i a0.Int, .s a0.Text]), (1, .agg [.i a1.Kind, .i a1.Int, .s a1.Text])] (by simp) Tryz.func107 rfl (of_decide_eq_true rfl) rfl rfl ?_
 refine .seqR ?_
 refine .rk 3 fun K k => ?_; simp; refine k ?_
 refine .tt [(2, .ptr 2 0 0), (3, .ptr 3 0 0)] (H23 a0 a1) ?_
 refine .nil (.seq (.seqR ?_))
 refine .rk 5 fun K k => ?_; simp; refine k ?_
 refine .tt [(2, .ptr 2 0 0), (3, .ptr 3 0 0), (9, .b (a0.Kind != a1.Kind))] (H23 a0 a1) ?_
 refine .nil ?_
 replace h := isome h; rcases h with ⟨c1, h⟩ | ⟨c1, h⟩
 ·have c1_ : (a0.Kind != a1.Kind) = true := c1
  refine .condT rfl c1_ ?_
  refine .seqR ?_
  refine .rk 6 fun K k => ?_; simp; refine k ?_
  refine .tt [(4, .b (decide (a0.Kind < a1.Kind)))] [] ?_
  refine .nil (.ret ?_)
  cases h
  refine thenQ_pass (by simp) ?_
  exact FinC.ret (by simp) (by simp)
 have c1_ : (a0.Kind != a1.Kind) = false := Bool.eq_false_iff.2 c1
 refine .condF rfl c1_ ?_
 refine .skip (thenQ_normal (.seq (.seqR ?_)))
 refine .rk 5 fun K k => ?_; simp; refine k ?_
 refine .tt [(2, .ptr 2 0 0), (3, .ptr 3 0 0), (19, .b (a0.Int != a1.Int))] (H23 a0 a1) ?_
 refine .nil ?_
 replace h := isome h; rcases h with ⟨c2, h⟩ | ⟨c2, h⟩
 ·have c2_ : (a0.Int != a1.Int) = true := c2
  refine .condT rfl c2_ ?_
  refine .seqR ?_
  refine .rk 6 fun K k => ?_; simp; refine k ?_
  refine .tt [(4, .b (decide (a0.Int < a1.Int)))] [] ?_
  refine .nil (.ret ?_)
  cases h
  refine thenQ_pass (by simp) ?_
  exact FinC.ret (by simp) (by simp)
 have c2_ : (a0.Int != a1.Int) = false := Bool.eq_false_iff.2 c2
 refine .condF rfl c2_ ?_
 refine .skip (thenQ_normal (.seqR ?_))
 refine .rk 6 fun K k => ?_; simp; refine k ?_
 refine .tt [(4, .b (Op.bytesLess a0.Text.toList a1.Text.toList))] [] ?_
 refine .nil (.ret ?_)
 cases h
 exact FinC.ret (by simp) (by simp)
def d79 (N : Nat) (a0 : (List S61)) (a1 : (List S61)) (a2 : (List Bool)) : Option Bool :=
 letv (minI (a0.length : Int) (a1.length : Int)) fun v1 =>
 bindO (β := Unit) (ρ := Bool) (
  iterN (σ := Int) (ρ := (Out Unit Bool)) (fun (v23 : Int) =>
   if v23 < v1 then (
    (idx a0 v23).bind fun x70 =>
    (idx a1 v23).bind fun x72 =>
    Option.bind (α := Bool) (
     if v23 < (a2.length : Int) then (
      (idx a2 v23).bind fun x77 =>
      some x77
     ) else
     some false
    ) fun (v75 : Bool) =>
    Option.bind (α := (Int × Int × ByteArray × Int × Int × ByteArray)) (
     if v75 = true then (
      some (x72.Kind, x72.Int, x72.Text, x70.Kind, x70.Int, x70.Text)
     ) else
     some (x70.Kind, x70.Int, x70.Text, x72.Kind, x72.Int, x72.Text)
    ) fun ((v79, v80, v81, v82, v83, v84) : (Int × Int × ByteArray × Int × Int × ByteArray)) =>
    (d107 N (S61.mk v79 v80 v81) (S61.mk v82 v83 v84)).bind fun r86 =>
    if r86 = true then (
     some (.inr (.ret true))
    ) else
    (d107 N (S61.mk v82 v83 v84) (S61.mk v79 v80 v81)).bind fun r88 =>
    if r88 = true then (
     some (.inr (.ret false))
    ) else
    (chkI (v23 + 1)).bind fun v90 =>
    some (.inl v90)
   ) else
   some (.inr (.go ()))
  ) N 0
 ) fun (_ : Unit) =>
 some false
theorem p79 (N : Nat) (a0 : (List S61)) (a1 : (List S61)) (a2 : (List Bool)) (r : Bool) (h : d79 N a0 a1 a2 = some r) : FunC Tryz.prog 79 [.s61 a0, .s61 a1, .sb a2] (.b r) := by
 unfold d79 at h
 refine FunC.enter 45 [(0, .s61 a0), (1, .s61 a1), (2, .sb a2)] (by simp) Tryz.func79 rfl (of_decide_eq_true rfl) rfl rfl ?_
 refine .seqR ?_
 refine .rk 1 fun K k => ?_; simp; refine k ?_
 refine .tt (L1 a0 a1 ++ [(2, .sb a2)]) [] ?_
 refine .nil (.seq (.seqR ?_))
 replace h := lsome h; obtain ⟨v1, hv1, h⟩ := h
 unfold minI at hv1
 try simp only [Int.ofNat_lt] at hv1
 refine .rk 6 fun K k => ?_; simp [hv1]; refine k ?_
 refine .tt (L1 a0 a1 ++ [(2, .sb a2), (14, .i v1), (15, .i 0)]) [] ?_
 refine .nil ?_
 refine .lastJ (fun (_ : Unit) => mk 45 [] [] []) h ?_ ?_ <;> clear h
 ·intro o h
  refine .block ?_
  refine .iter (fun (v23 : Int) => mk 45 [] (L65 a0 a1 a2 v1 v23) []) h Sub.tt ?_
  clear h
  rintro v23 x h
  refine .seqR ?_
  refine .rk 1 fun K k => ?_; simp; refine k ?_
  refine .tt (L65 a0 a1 a2 v1 v23 ++ [(16, .b (decide (v23 < v1)))]) [] ?_
  refine .nil (.seq ?_)
  replace h := isome h; rcases h with ⟨c69, h⟩ | ⟨c69, h⟩
  ·have c69_ : decide (v23 < v1) = true := decide_eq_true c69
   refine .condT rfl c69_ ?_
   refine .skip (thenQ_normal (.seq (.block (.seqR ?_))))
   refine .rk 2 fun K k => ?_; simp; refine k ?_
   refine .tt (L1 a0 a1 ++ [(2, .sb a2), (7, .i v23), (14, .i v1), (15, .i v23)]) [] ?_
   refine .nil ?_
   replace h := bsome h; obtain ⟨x70, hx70, h⟩ := h
   obtain ⟨k71, hx70k, hx70, hx70a, hx70b⟩ := idx_some hx70
   replace h := bsome h; obtain ⟨x72, hx72, h⟩ := h
   obtain ⟨hx72, hx72a, hx72b⟩ := idx_some2 hx72 hx70k
   refine .seqAnyS [[], [], [0, 1], [0, 1, 2], [], [], [4, 5], [4, 5, 6], [], [], [0, 1, 2, 3, 8, 9], [0, 1, 2, 3, 4, 5, 6, 7, 8, 9, 10]] (fun (b : Nat → Bool) => mk 45 [] [(0, .s61 a0), (1, .s61 a1), (2, .sb a2), (7, .i v23), (8, (if b 8 then .ptr 8 0 0 else .junk)), (9, (if b 9 then .ptr 9 0 0 else .junk)), (14, .i v1), (15, .i v23), (18, (if b 0 then .s61 a0 else .junk)), (19, (if b 1 then .i v23 else .junk)), (20, (if b 2 then .d (.pim [.lit (.int .i64 x70.Kind), .lit (.int .i64 x70.Int), .lit (.string x70.Text)]) else .junk)), (21, (if b 3 then .agg [.i x70.Kind, .i x70.Int, .s x70.Text] else .junk)), (22, (if b 4 then .s61 a1 else .junk)), (23, (if b 5 then .i v23 else .junk)), (24, (if b 6 then .d (.pim [.lit (.int .i64 x72.Kind), .lit (.int .i64 x72.Int), .lit (.string x72.Text)]) else .junk)), (25, (if b 7 then .agg [.i x72.Kind, .i x72.Int, .s x72.Text] else .junk))] [(8, (if b 10 then some (.box [.i x70.Kind, .i x70.Int, .s x70.Text]) else (if b 8 then some (.box [.i 0, .i 0, .s (ByteArray.mk #[])]) else none))), (9, (if b 11 then some (.box [.i x72.Kind, .i x72.Int, .s x72.Text]) else (if b 9 then some (.box [.i 0, .i 0, .s (ByteArray.mk #[])]) else none)))]) (mk 45 [] (L66 a0 a1 a2 v23 v1) (H15 x70 x72)) (by kernel_rfl) (by kernel_rfl) Sub.tt (Steps.cons ?_ (Steps.cons ?_ (Steps.cons ?_ (Steps.cons ?_ (Steps.cons ?_ (Steps.cons ?_ (Steps.cons ?_ (Steps.cons ?_ (Steps.cons ?_ (Steps.cons ?_ (Steps.cons ?_ (Steps.cons ?_ (Steps.nil))))))))))))) ?_ ?_
   iterate 8
    ·intro b h0 ha hd
     have T := fct h0 ha hd; simp at T
     refine .rk 1 fun K k => ?_; simp [T, hx70, hx70k, hx70a, hx72]; refine k ?_
     exact .nil (.table (by simp [T]) (by simp [T]))
   ·intro b h0 ha hd
    have T := fct h0 ha hd; simp at T
    cases q9 : b 9 <;> (refine Chain.runK [] 1 fun K k => ?_; simp [T]; refine k _ _ ?_; clear k K; exact .nil (.table (by simp [q9]) (by simp [T, q9])))
   ·intro b h0 ha hd
    have T := fct h0 ha hd; simp at T
    cases q8 : b 8 <;> (refine Chain.runK [] 1 fun K k => ?_; simp [T]; refine k _ _ ?_; clear k K; exact .nil (.table (by simp [q8]) (by simp [T, q8])))
   iterate 2
    ·intro b h0 ha hd
     have T := fct h0 ha hd; simp at T
     refine .rk 1 fun K k => ?_; simp [T]; refine k ?_
     exact .nil (.table (by simp [T]) (by simp [T]))
   ·intro b hb
    have T := FA_of (n := 12) hb; simp at T
    exact Sub.table (by simp [T]) (by simp [T])
   skip
   refine .seq ?_
   replace h := bsome h; obtain ⟨v75, hj, h⟩ := h
   refine .cutR (mk 45 [] (L67 a0 a1 a2 v1 v23 ++ [(35, .b v75)]) (H15 x70 x72)) ?_ ?_
   ·clear h; have h := hj; clear hj
    refine .rk 5 fun K k => ?_; simp; refine k ?_
    refine .tt (L66 a0 a1 a2 v23 v1 ++ [(30, .b (decide (v23 < (a2.length : Int))))]) (H15 x70 x72) ?_
    replace h := isome h; rcases h with ⟨c76, h⟩ | ⟨c76, h⟩
    ·have c76_ : decide (v23 < (a2.length : Int)) = true := decide_eq_true c76
     refine .sub (.bool 30 rfl c76_) ?_
     refine .st (mk 45 [] (L66 a0 a1 a2 v23 v1 ++ [(30, .b true)]) (H15 x70 x72)) ?_
     replace h := bsome h; obtain ⟨x77, hx77, h⟩ := h
     obtain ⟨hx77, hx77a, hx77b⟩ := idx_some2 hx77 hx70k
     refine .rk 5 fun K k => ?_; simp [hx77, hx70k, hx77a]; refine k ?_
     refine .tt (L67 a0 a1 a2 v1 v23 ++ [(31, .sb a2), (32, .i v23), (33, .d (.pim [.lit (.bool x77)])), (34, .b x77), (35, .b x77)]) (H15 x70 x72) ?_
     cases h
     exact .nil .tt
    have c76_ : decide (v23 < (a2.length : Int)) = false := decide_eq_false c76
    refine .sub (.bool 30 rfl c76_) ?_
    refine .st (mk 45 [] (L66 a0 a1 a2 v23 v1 ++ [(30, .b false)]) (H15 x70 x72)) ?_
    refine .rk 5 fun K k => ?_; simp; refine k ?_
    refine .tt (L67 a0 a1 a2 v1 v23 ++ [(31, .tup []), (32, .tup []), (33, .tup []), (34, .tup []), (35, .b false)]) (H15 x70 x72) ?_
    cases h
    exact .nil .tt
   clear hj
   refine .lastN (fun ((v79, v80, v81, v82, v83, v84) : (Int × Int × ByteArray × Int × Int × ByteArray)) => mk 45 [] (L67 a0 a1 a2 v1 v23) (H36 v79 v80 v81 v82 v83 v84)) h ?_ ?_ <;> clear h
   ·intro o h
    replace h := isome h; rcases h with ⟨c85, h⟩ | ⟨c85, h⟩
    ·have c85_ : v75 = true := c85
     refine .condT rfl c85_ ?_
     refine .region ?_
     refine .rk 4 fun K k => ?_; simp; refine k ?_
     refine .tt (L67 a0 a1 a2 v1 v23) (H15 x72 x70) ?_
     refine .nil ?_
     cases h
     refine PostN.next ?_
     exact Sub.tt
    have c85_ : v75 = false := Bool.eq_false_iff.2 c85
    refine .condF rfl c85_ ?_
    refine .skip ?_
    cases h
    refine PostN.next ?_
    exact Sub.tt
   rintro ⟨v79, v80, v81, v82, v83, v84⟩ h
   dsimp only at h ⊢
   refine thenQ_normal (.seq (.seqR ?_))
   refine .rk 2 fun K k => ?_; simp; refine k ?_
   refine .tt (L67 a0 a1 a2 v1 v23 ++ [(38, .agg [.i v79, .i v80, .s v81]), (39, .agg [.i v82, .i v83, .s v84])]) (H36 v79 v80 v81 v82 v83 v84) ?_
   replace h := bsome h; obtain ⟨r86, hr86, h⟩ := h
   refine .callL (d := 40) (p107 N (S61.mk v79 v80 v81) (S61.mk v82 v83 v84) r86 hr86) (by simp) rfl rfl (by simp <;> rfl) (by simp <;> rfl) ent107 (by simp <;> rfl) ?_
   refine .st (mk 45 [] (L67 a0 a1 a2 v1 v23 ++ [(38, .agg [.i v79, .i v80, .s v81]), (39, .agg [.i v82, .i v83, .s v84]), (40, .b r86)]) (H36 v79 v80 v81 v82 v83 v84)) ?_
   refine .nil ?_
   replace h := isome h; rcases h with ⟨c87, h⟩ | ⟨c87, h⟩
   ·have c87_ : r86 = true := c87
    refine .condT rfl c87_ ?_
    refine .seqR ?_
    refine .rk 1 fun K k => ?_; simp; refine k ?_
    refine .tt [(6, .b true)] [] ?_
    refine .nil (.ret ?_)
    cases h
    refine thenQ_pass (by simp) ?_
    refine blockQ.ret ?_
    refine thenQ_pass (by simp) ?_
    refine PostI.out (by simp) ?_
    rintro rfl
    refine blockQ.ret ?_
    refine PostJ.out (by simp) ?_
    rintro rfl
    refine thenQ_pass (by simp) ?_
    exact FinC.ret (by simp) (by simp)
   have c87_ : r86 = false := Bool.eq_false_iff.2 c87
   refine .condF rfl c87_ ?_
   refine .skip (thenQ_normal (.seqR ?_))
   refine .rk 2 fun K k => ?_; simp; refine k ?_
   refine .tt (L65 a0 a1 a2 v1 v23 ++ [(41, .agg [.i v82, .i v83, .s v84]), (42, .agg [.i v79, .i v80, .s v81])]) [] ?_
   replace h := bsome h; obtain ⟨r88, hr88, h⟩ := h
   refine .callL (d := 43) (p107 N (S61.mk v82 v83 v84) (S61.mk v79 v80 v81) r88 hr88) (by simp) rfl rfl (by simp <;> rfl) (by simp <;> rfl) ent107 (by simp <;> rfl) ?_
   refine .st (mk 45 [] (L65 a0 a1 a2 v1 v23 ++ [(41, .agg [.i v82, .i v83, .s v84]), (42, .agg [.i v79, .i v80, .s v81]), (43, .b r88)]) []) ?_
   refine .nil ?_
   replace h := isome h; rcases h with ⟨c89, h⟩ | ⟨c89, h⟩
   ·have c89_ : r88 = true := c89
    refine .condT rfl c89_ ?_
    refine .seqR ?_
    refine .rk 1 fun K k => ?_; simp; refine k ?_
    refine .tt [(6, .b false)] [] ?_
    refine .nil (.ret ?_)
    cases h
    refine blockQ.ret ?_
    refine thenQ_pass (by simp) ?_
    refine PostI.out (by simp) ?_
    rintro rfl
    refine blockQ.ret ?_
    refine PostJ.out (by simp) ?_
    rintro rfl
    refine thenQ_pass (by simp) ?_
    exact FinC.ret (by simp) (by simp)
   have c89_ : r88 = false := Bool.eq_false_iff.2 c89
   refine .condF rfl c89_ ?_
   refine .skip (blockQ.normal (thenQ_normal (.region ?_)))
   replace h := bsome h; obtain ⟨v90, hv90, h⟩ := h
   have hv90 := chkI_some hv90
   refine .rk 2 fun K k => ?_; simp [hv90]; refine k ?_
   refine .tt (L65 a0 a1 a2 v1 v90) [] ?_
   refine .nil ?_
   cases h
   refine PostI.next ?_
   exact Sub.tt
  have c69_ : decide (v23 < v1) = false := decide_eq_false c69
  refine .condF rfl c69_ ?_
  refine .exit ?_
  cases h
  refine thenQ_pass (by simp) ?_
  refine PostI.out (by simp) ?_
  rintro rfl
  refine blockQ.hit (PostJ.next ?_)
  exact Sub.tt
 rintro ⟨⟩ h
 refine thenQ_normal (.seqR ?_)
 refine .rk 1 fun K k => ?_; simp; refine k ?_
 refine .tt [(6, .b false)] [] ?_
 refine .nil (.ret ?_)
 cases h
 exact FinC.ret (by simp) (by simp)
def d80 (_ : Nat) (a0 : (List (List S61))) (a1 a2 : Int) : Option (List (List S61)) := delL a0 a1 a2
theorem p80 (N : Nat) (a0 : (List (List S61))) (a1 a2 : Int) (r : (List (List S61))) (h : d80 N a0 a1 a2 = some r) : FunM Tryz.prog 80 [.ref 1000 0 a0.length, .d (.lit (.int .i64 a1)), .d (.lit (.int .i64 a2))] [(1000, some (.arr 57 1 (a0.map (cL cS61))))] [] (.ref 1000 0 r.length) [(1000, .arr 57 1 (r.map (cL cS61)))] := by
 obtain ⟨i, j, rfl, rfl, hij, hj, hrl, hr⟩ := delL_some (cL cS61) h
 have hes : ∀ x ∈ a0.map (cL cS61), x.length = 1 := fun x hx => by
  obtain ⟨y, _, rfl⟩ := List.mem_map.1 hx
  rfl
 rw [hr, hrl]
 have hel : (a0.map (cL cS61)).length = a0.length := by simp
 rw [← hel] at hj hrl ⊢
 clear hel h hr hrl
 generalize a0.map (cL cS61) = es at *
 refine FunM.enter 33 [(0, .ref 1000 0 es.length), (1, .i i), (2, .i j)] Tryz.func80 rfl (of_decide_eq_true rfl) rfl rfl ?_
 refine .goR [] 1 fun K k => ?_; simp; refine k _ ?_; clear k K
 refine .seqR ?_
 refine .rk 5 fun K k => ?_; simp; refine k ?_
 have hjn : (j : Int) ≤ es.length := by omega
 have hin : (i : Int) ≤ j := by omega
 refine .slice3 (id := 1000) (off := 0) (len := es.length) (mq := es.length) (hq := j) (lq := i) (by simp) rfl ty48 rfl ty57 rfl (by simp [bnd]) (by simp [bnd, hj]) (by simp [bnd]; omega) ?_
 refine .nil ?_
 have hne : ¬ ((i : Int) = j) := by omega
 refine .seq ?_
 refine .goR [] 3 fun K k => ?_; simp; refine k _ ?_; clear k K
 refine .condK fun K1 K2 k1 k2 => ?_; simp [hne]; refine k2 ?_; clear k1 k2 K1 K2
 refine .skip (thenQ_normal ?_)
 refine .goR [] 3 fun K k => ?_; simp; refine k _ ?_; clear k K
 refine .seqT 6 (by kernel_rfl) (by kernel_rfl) fun K k => ?_
 simp [show i ≤ es.length by omega, hj]; refine k _ _ ?_; clear k K
 have htk : List.take (es.length - j) (es.drop j) = es.drop j := List.take_of_length_le (by simp)
 refine .cut (mk 33 [] [(0, .ref 1000 0 (i + (es.length - j))), (7, .i es.length)] [(1000, some (.arr 57 1 (es.take i ++ (es.drop j ++ es.drop (i + (es.length - j))))))]) ?_ fun S' hS => AW.sub hS ?_
 ·by_cases hje : j = es.length
  ·have hdn : es.drop j = [] := by rw [hje]; simp
   refine Chain.appNo (id := 1000) (len := i) (es := es) (te := ⟨_, 1, 24, _⟩) (by simp) rfl rfl rfl rfl ty48 rfl ty57 rfl rfl (by simp [srcV, hje]) (by omega) (by omega) ?_
   refine .rk 1 fun K k => ?_; simp; refine k ?_
   refine .nil ?_
   exact Sub.table (by simp [hje]) (by simp [hje])
  ·refine Chain.appIn (id := 1000) (len := i) (es := es) (ys := es.drop j) (te := ⟨_, 1, 24, _⟩) (by simp) rfl rfl rfl rfl ty48 rfl ty57 rfl rfl (by simp [srcV, show j + (es.length - j) ≤ es.length by omega]) (fun y hy => hes y (List.mem_of_mem_drop hy)) (by simp; omega) (by simp; omega) ?_
   refine .rk 1 fun K k => ?_; simp; refine k ?_
   refine .nil ?_
   exact Sub.table (by simp) (by simp)
 have hl2 : (es.take i ++ (es.drop j ++ es.drop (i + (es.length - j)))).length = es.length := by simp; omega
 have hes2 : ∀ x ∈ (es.take i ++ (es.drop j ++ es.drop (i + (es.length - j)))), x.length = 1 := fun x hx => by
  rcases List.mem_append.1 hx with hx | hx
  ·exact hes x (List.mem_of_mem_take hx)
  ·rcases List.mem_append.1 hx with hx | hx
   ·exact hes x (List.mem_of_mem_drop hx)
   ·exact hes x (List.mem_of_mem_drop hx)
 have htk2 : (es.take i ++ (es.drop j ++ es.drop (i + (es.length - j)))).take (i + (es.length - j)) = es.take i ++ es.drop j := by
  rw [← List.append_assoc]
  exact List.take_left' (by simp; omega)
 generalize (es.take i ++ (es.drop j ++ es.drop (i + (es.length - j)))) = es2 at hl2 hes2 htk2 ⊢
 refine .seqR ?_
 refine .rk 4 fun K k => ?_; simp; refine k ?_
 refine Chain.sliceX (id := 1000) (off := 0) (len := i + (es.length - j)) (es := es2) (hq := es.length) (lq := i + (es.length - j)) (te := ⟨_, 1, 24, _⟩) (by simp) rfl ty48 rfl ty57 rfl rfl (by omega) (by omega) (by simp [bnd, hl2]) (by simp [bnd]; omega) ?_
 simp
 refine Chain.clear (id := 1000) (off := i + (es.length - j)) (len := es.length - (i + (es.length - j))) (es := es2) (te := ⟨_, 1, 24, _⟩) (by simp) rfl rfl rfl rfl ty48 rfl ty57 (by simp) (by simp) rfl rfl (by omega) (by omega) ?_
 simp
 refine .nil ?_
 refine .goR [] 2 fun K k => ?_; simp; refine k _ ?_; clear k K
 have hcl : ∀ zs : List (List D), List.take (i + (es.length - j)) (es.take i ++ (es.drop j ++ zs)) = es.take i ++ es.drop j := fun zs => by
  rw [← List.append_assoc]
  exact List.take_left' (by simp; omega)
 refine .sub (.cut 1000 (i + (es.length - j)) rfl) ?_
 refine .sub (S' := mk 33 [] [(6, .ref 1000 0 (i + (es.length - j)))] [(1000, some (.arr 57 1 (es.take i ++ es.drop j)))]) (by simp [htk2]; exact Sub.table (by simp) (by simp [hcl])) ?_
 refine .ret ?_
 exact FinF.ret (by simp) (by simp)
end Go.Proofs.YtimkkjiplioohaaGreatDoor
