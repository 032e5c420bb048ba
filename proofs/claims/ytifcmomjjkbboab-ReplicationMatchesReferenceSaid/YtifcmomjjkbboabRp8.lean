/- Functions of the program as functional programs; the code computes them. -/
import Derived.Test.YtifcmomjjkbboabRp7
namespace Go.Proofs.Ytifcmomjjkbboab
open Go.Ab Go.Rp
attribute [-simp] List.all_eq_true Array.all_toList Array.all_eq_true

/-- (*stemma/stemref5.Cluster).AppendEntriesTo -/
def d14 (N : Nat) (a0 : S44) (a1 : Int) (a2 : Int) : Option S73 :=
 (idx a0.Servers a1).bind fun x1 =>
 (idx x1.Match a2).bind fun x3 =>
 Option.bind (α := List S64) (
  iterN (σ := ((List S64) × Int)) (ρ := List S64) (fun ((l15, v16) : ((List S64) × Int)) =>
   Option.bind (α := Bool) (
    if v16 < (x1.Log.length : Int) then (
     (chkI (x3 + 3)).bind fun v44 =>
     some (decide (v16 < v44))
    ) else
    some false
   ) fun (v42 : Bool) =>
   if v42 = true then (
    (idx x1.Log v16).bind fun x46 =>
    (appL 24 l15 [x46]).bind fun _l48 =>
    (chkI (v16 + 1)).bind fun v49 =>
    some (.inl ((l15 ++ [x46]), v49))
   ) else
   some (.inr l15)
  ) N (([] : List S64), x3)
 ) fun (l39 : List S64) =>
 if x3 > 0 then (
  (chkI (x3 - 1)).bind fun v51 =>
  (idx x1.Log v51).bind fun x52 =>
  some (S73.mk 1 a1 a2 x1.Term x3 x52.Term x1.Commit l39)
 ) else
 some (S73.mk 1 a1 a2 x1.Term x3 0 x1.Commit l39)
set_option maxRecDepth 100000 in
set_option maxHeartbeats 4000000 in
theorem p14 (N : Nat) (a0 : S44) (a1 : Int) (a2 : Int) (r : S73) (h : d14 N a0 a1 a2 = some r) : FunF Try.prog 14 [.d (.pim [.sl (a0.Servers.map cS68), .sl (a0.Leaders.map (cI .i64)), .sl (a0.Network.map cS73)]), .d (.lit (.int .i64 a1)), .d (.lit (.int .i64 a2))] (.agg [.d (.lit (.int .i64 r.Kind)), .d (.lit (.int .i64 r.From)), .d (.lit (.int .i64 r.To)), .d (.lit (.int .i64 r.Term)), .d (.lit (.int .i64 r.Index)), .d (.lit (.int .i64 r.PrevTerm)), .d (.lit (.int .i64 r.Commit)), .d (.sl (r.Entries.map cS64))]) := by
 unfold d14 at h
 refine FunF.enter 66 [(0, .d (.pim [.sl (a0.Servers.map cS68), .sl (a0.Leaders.map (cI .i64)), .sl (a0.Network.map cS73)])), (1, .i a1), (2, .i a2)] (by simp) Try.func14 rfl (of_decide_eq_true rfl) rfl rfl ?_
 refine .seqR ?_
 refine .runK [] 1 fun K hK => ?_; simp; refine hK _ _ ?_; clear hK K
 refine .tt [(0, .d (.pim [.sl (a0.Servers.map cS68), .sl (a0.Leaders.map (cI .i64)), .sl (a0.Network.map cS73)])), (1, .i a1), (2, .i a2), (6, .ptr 6 0 0)] [(6, some (.box [.i 0, .i 0, .i 0, .i 0, .i 0, .i 0, .i 0, .d (.lit (.slice none 0 0))]))] ?_
 refine .nil ?_
 refine .seqR ?_
 replace h := bsome h; obtain ⟨x1, hx1, h⟩ := h
 obtain ⟨k2, hx1k, hx1, hx1a, hx1b⟩ := idx_some hx1
 refine .runK [] 9 fun K hK => ?_; simp [hx1, hx1k, hx1a]; refine hK _ _ ?_; clear hK K
 refine .tt [(1, .i a1), (2, .i a2), (6, .ptr 6 0 0), (7, .ptr 7 0 0)] (H36 x1) ?_
 refine .nil ?_
 refine .seqR ?_
 replace h := bsome h; obtain ⟨x3, hx3, h⟩ := h
 obtain ⟨k4, hx3k, hx3, hx3a, hx3b⟩ := idx_some hx3
 refine .runK [] 6 fun K hK => ?_; simp [hx3, hx3k, hx3a]; refine hK _ _ ?_; clear hK K
 refine .tt [(1, .i a1), (2, .i a2), (6, .ptr 6 0 0), (7, .ptr 7 0 0), (8, .i x3)] (H36 x1) ?_
 refine .nil ?_
 refine .seqR ?_
 refine .runK [] 10 fun K hK => ?_; simp; refine hK _ _ ?_; clear hK K
 refine .tt (L9 x3) (H37 x1 a1 a2 x3) ?_
 refine .nil ?_
 refine .seq ?_
 refine .seqR ?_
 refine .runK [] 2 fun K hK => ?_; simp; refine hK _ _ ?_; clear hK K
 refine .tt (L9 x3 ++ [(10, .i x3)]) (H37 x1 a1 a2 x3) ?_
 refine .nil ?_
 refine .lastN (fun (l39 : List S64) => mk 66 [] (L9 x3) (H17 x1 a1 a2 x3 l39)) h ?_ ?_ <;> clear h
 ·intro o h
  refine .block ?_
  refine .iter (fun ((l15, v16) : ((List S64) × Int)) => mk 66 [] (L10 x3 v16) (H17 x1 a1 a2 x3 l15)) h (Sub.trans (Sub.nilOwnBox (bid := 9) (j := 7) (id := 53) (T := 71) (n := 2) rfl rfl (by decide) rfl (by decide)) (by simp; exact Sub.tt)) ?_
  clear h
  rintro ⟨l15, v16⟩ x h
  dsimp only at h ⊢
  refine .seq ?_
  replace h := bsome h; obtain ⟨v42, hj, h⟩ := h
  refine .cutR (mk 66 [] (L10 x3 v16 ++ [(42, .b v42)]) (H17 x1 a1 a2 x3 l15)) ?_ ?_
  ·clear h; have h := hj; clear hj
   refine .runK [] 6 fun K hK => ?_; simp; refine hK _ _ ?_; clear hK K
   refine .tt (L10 x3 v16 ++ [(37, .b (decide (v16 < (x1.Log.length : Int))))]) (H17 x1 a1 a2 x3 l15) ?_
   replace h := isome h; rcases h with ⟨c43, h⟩ | ⟨c43, h⟩
   ·have c43_ : decide (v16 < (x1.Log.length : Int)) = true := decide_eq_true c43
    refine .sub (.bool 37 (b := decide (v16 < (x1.Log.length : Int))) rfl c43_) ?_
    refine .st (mk 66 [] (L10 x3 v16 ++ [(37, .b true)]) (H17 x1 a1 a2 x3 l15)) ?_
    replace h := bsome h; obtain ⟨v44, hv44, h⟩ := h
    have hv44 := chkI_some hv44
    refine .runK [] 5 fun K hK => ?_; simp [hv44]; refine hK _ _ ?_; clear hK K
    refine .tt (L10 x3 v16 ++ [(38, .i v16), (39, .i x3), (40, .i v44), (41, .b (decide (v16 < v44))), (42, .b (decide (v16 < v44)))]) (H17 x1 a1 a2 x3 l15) ?_
    cases h
    exact .nil .tt
   have c43_ : decide (v16 < (x1.Log.length : Int)) = false := decide_eq_false c43
   refine .sub (.bool 37 (b := decide (v16 < (x1.Log.length : Int))) rfl c43_) ?_
   refine .st (mk 66 [] (L10 x3 v16 ++ [(37, .b false)]) (H17 x1 a1 a2 x3 l15)) ?_
   refine .runK [] 5 fun K hK => ?_; simp; refine hK _ _ ?_; clear hK K
   refine .tt (L10 x3 v16 ++ [(38, .tup []), (39, .tup []), (40, .tup []), (41, .tup []), (42, .b false)]) (H17 x1 a1 a2 x3 l15) ?_
   cases h
   exact .nil .tt
  clear hj
  replace h := isome h; rcases h with ⟨c45, h⟩ | ⟨c45, h⟩
  ·have c45_ : v42 = true := c45
   refine .condT (b := v42) rfl c45_ ?_
   refine .sub (.bool 42 (b := v42) rfl c45_) ?_
   refine .st (mk 66 [] (L10 x3 v16 ++ [(42, .b true)]) (H17 x1 a1 a2 x3 l15)) ?_
   refine .skip ?_
   refine thenQ_normal ?_
   refine .seq ?_
   refine .block ?_
   replace h := bsome h; obtain ⟨x46, hx46, h⟩ := h
   obtain ⟨k47, hx46k, hx46, hx46a, hx46b⟩ := idx_some hx46
   replace h := bsome h; obtain ⟨l48, hl48, h⟩ := h
   obtain ⟨hl48a, hl48⟩ := appL_some hl48
   subst hl48
   try simp only [List.length_cons, List.length_nil, Nat.zero_add] at hl48a
   refine .lastAnyS [[], [0], [], [2], [], [2, 3, 4], [2, 3, 4, 5], [2, 3, 4, 5, 6], [0, 1, 2, 3, 4, 5, 6, 7], [0, 1, 2, 3, 4, 5, 6, 7, 8], [0, 1, 2, 3, 4, 5, 6, 7, 8, 9]] (fun (b : Nat → Bool) => mk 66 [] [(6, .ptr 6 0 0), (7, .ptr 7 0 0), (8, .i x3), (9, .ptr 9 0 0), (10, .i v16), (45, (if b 0 then .ptr 9 0 7 else .junk)), (46, (if b 8 then .junk else (if b 1 then .ref 53 0 l15.length else .junk))), (47, (if b 2 then .ptr 7 0 2 else .junk)), (48, (if b 3 then .d (.sl (x1.Log.map cS64)) else .junk)), (49, (if b 4 then .i v16 else .junk)), (50, (if b 5 then .d (.pim [.lit (.int .i64 x46.Term), .lit (.string x46.Payload)]) else .junk)), (51, (if b 6 then .agg [.i x46.Term, .d (.lit (.string x46.Payload))] else .junk)), (52, (if b 7 then .d (.sl ([x46].map cS64)) else .junk)), (53, (if b 8 then .ref 53 0 ((l15 ++ [x46]).length) else .junk)), (54, (if b 9 then .ptr 9 0 7 else .junk))] [(6, some (.box [.i 0, .i 0, .i 0, .i 0, .i 0, .i 0, .i 0, .d (.lit (.slice none 0 0))])), (7, some (.box [.i x1.Term, .i x1.Commit, .d (.sl (x1.Log.map cS64)), .d (.sl (x1.Match.map (cI .i64)))])), (9, (if b 10 then some (.box [.i 1, .i a1, .i a2, .i x1.Term, .i x3, .i 0, .i x1.Commit, .ref 53 0 ((l15 ++ [x46]).length)]) else (if b 8 then some (.box [.i 1, .i a1, .i a2, .i x1.Term, .i x3, .i 0, .i x1.Commit, .hole]) else some (.box [.i 1, .i a1, .i a2, .i x1.Term, .i x3, .i 0, .i x1.Commit, .ref 53 0 l15.length])))), (53, (if b 8 then R71 (l15 ++ [x46]) else R71 l15))]) (mk 66 [] (L10 x3 v16) [(6, some (.box [.i 0, .i 0, .i 0, .i 0, .i 0, .i 0, .i 0, .d (.lit (.slice none 0 0))])), (7, some (.box [.i x1.Term, .i x1.Commit, .d (.sl (x1.Log.map cS64)), .d (.sl (x1.Match.map (cI .i64)))])), (9, some (.box [.i 1, .i a1, .i a2, .i x1.Term, .i x3, .i 0, .i x1.Commit, .ref 53 0 ((l15 ++ [x46]).length)])), (53, R71 (l15 ++ [x46]))]) (by kernel_rfl) (by kernel_rfl) Sub.tt (Steps.cons ?_ (Steps.cons ?_ (Steps.cons ?_ (Steps.cons ?_ (Steps.cons ?_ (Steps.cons ?_ (Steps.cons ?_ (Steps.cons ?_ (Steps.cons ?_ (Steps.cons ?_ (Steps.cons ?_ (Steps.nil)))))))))))) ?_ ?_
   iterate 5
    ·intro b h0 ha hd
     have T := fct h0 ha hd; simp at T
     refine .runK [52] 1 fun K hK => ?_; simp [T]; refine hK _ _ ?_; clear hK K
     exact .nil (.table (by simp [T]) (by simp [T]))
   ·intro b h0 ha hd
    have T := fct h0 ha hd; simp at T
    refine .runK [52] 1 fun K hK => ?_; simp [T, hx46, hx46k, hx46a]; refine hK _ _ ?_; clear hK K
    exact .nil (.table (by simp [T]) (by simp [T]))
   iterate 2
    ·intro b h0 ha hd
     have T := fct h0 ha hd; simp at T
     refine .runK [52] 1 fun K hK => ?_; simp [T]; refine hK _ _ ?_; clear hK K
     exact .nil (.table (by simp [T]) (by simp [T]))
   ·intro b h0 ha hd
    have T := fct h0 ha hd; simp at T
    refine .runK [52] 1 fun K hK => ?_; simp [T, hl48a]; refine hK _ _ ?_; clear hK K
    exact .nil (.table (by simp [T]) (by simp [T]))
   iterate 2
    ·intro b h0 ha hd
     have T := fct h0 ha hd; simp at T
     refine .runK [52] 1 fun K hK => ?_; simp [T]; refine hK _ _ ?_; clear hK K
     exact .nil (.table (by simp [T]) (by simp [T]))
   ·intro b hb
    have t0 := hb 0 (by decide)
    have t1 := hb 1 (by decide)
    have t2 := hb 2 (by decide)
    have t3 := hb 3 (by decide)
    have t4 := hb 4 (by decide)
    have t5 := hb 5 (by decide)
    have t6 := hb 6 (by decide)
    have t7 := hb 7 (by decide)
    have t8 := hb 8 (by decide)
    have t9 := hb 9 (by decide)
    have t10 := hb 10 (by decide)
    exact Sub.table (by simp [t0, t2, t3, t4, t5, t6, t7, t8, t9]) (by simp [t8, t10])
   skip
   refine blockQ.normal ?_
   refine thenQ_normal ?_
   refine .region ?_
   replace h := bsome h; obtain ⟨v49, hv49, h⟩ := h
   have hv49 := chkI_some hv49
   refine .runK [] 3 fun K hK => ?_; simp [hv49]; refine hK _ _ ?_; clear hK K
   refine .tt (L10 x3 v49) [(6, some (.box [.i 0, .i 0, .i 0, .i 0, .i 0, .i 0, .i 0, .d (.lit (.slice none 0 0))])), (7, some (.box [.i x1.Term, .i x1.Commit, .d (.sl (x1.Log.map cS64)), .d (.sl (x1.Match.map (cI .i64)))])), (9, some (.box [.i 1, .i a1, .i a2, .i x1.Term, .i x3, .i 0, .i x1.Commit, .ref 53 0 ((l15 ++ [x46]).length)])), (53, R71 (l15 ++ [x46]))] ?_
   refine .nil ?_
   cases h
   refine PostI.next ?_
   exact Sub.tt
  have c45_ : v42 = false := Bool.eq_false_iff.2 c45
  refine .condF (b := v42) rfl c45_ ?_
  refine .sub (.bool 42 (b := v42) rfl c45_) ?_
  refine .st (mk 66 [] (L10 x3 v16 ++ [(42, .b false)]) (H17 x1 a1 a2 x3 l15)) ?_
  refine .exit ?_
  cases h
  refine thenQ_pass (by simp) ?_
  refine PostI.out (by simp) ?_
  rintro rfl
  refine blockQ.hit ?_
  refine PostN.next ?_
  exact Sub.tt
 rintro l39 h
 refine thenQ_normal ?_
 refine .seq ?_
 refine .seqR ?_
 refine .runK [] 2 fun K hK => ?_; simp; refine hK _ _ ?_; clear hK K
 refine .tt (L9 x3 ++ [(56, .b (decide (x3 > 0)))]) (H17 x1 a1 a2 x3 l39) ?_
 refine .nil ?_
 replace h := isome h; rcases h with ⟨c50, h⟩ | ⟨c50, h⟩
 ·have c50_ : decide (x3 > 0) = true := decide_eq_true c50
  refine .condT (b := decide (x3 > 0)) rfl c50_ ?_
  refine .sub (.bool 56 (b := decide (x3 > 0)) rfl c50_) ?_
  refine .st (mk 66 [] (L9 x3 ++ [(56, .b true)]) (H17 x1 a1 a2 x3 l39)) ?_
  refine .region ?_
  replace h := bsome h; obtain ⟨v51, hv51, h⟩ := h
  have hv51 := chkI_some hv51
  replace h := bsome h; obtain ⟨x52, hx52, h⟩ := h
  obtain ⟨k53, hx52k, hx52, hx52a, hx52b⟩ := idx_some hx52
  refine .runK [] 9 fun K hK => ?_; simp [hv51, hx52, hx52k, hx52a]; refine hK _ _ ?_; clear hK K
  refine .tt [(6, .ptr 6 0 0), (9, .ptr 9 0 0)] [(6, some (.box [.i 0, .i 0, .i 0, .i 0, .i 0, .i 0, .i 0, .d (.lit (.slice none 0 0))])), (9, some (.box [.i 1, .i a1, .i a2, .i x1.Term, .i x3, .i x52.Term, .i x1.Commit, .ref 53 0 l39.length])), (53, R71 l39)] ?_
  refine .nil ?_
  refine thenQ_normal ?_
  refine .seqR ?_
  refine .runK [] 2 fun K hK => ?_; simp; refine hK _ _ ?_; clear hK K
  refine .tt [(6, .ptr 6 0 0)] [(6, some (.box [.i 1, .i a1, .i a2, .i x1.Term, .i x3, .i x52.Term, .i x1.Commit, .ref 53 0 l39.length])), (53, R71 l39)] ?_
  refine .nil ?_
  refine .ret ?_
  obtain rfl := Option.some.inj h
  exact FinV.ret (.agg [.d (.lit (.int .i64 1)), .d (.lit (.int .i64 a1)), .d (.lit (.int .i64 a2)), .d (.lit (.int .i64 x1.Term)), .d (.lit (.int .i64 x3)), .d (.lit (.int .i64 x52.Term)), .d (.lit (.int .i64 x1.Commit)), .ref 53 0 l39.length]) 53 (k := (.arr 71 2 (l39.map cS64))) (by simp) (by simp) (by simp) (by simp) (flatN_arr (fun a => by simp [D.flat, cS64]) _) (by simp [viewR, only1]) (by simp)
 have c50_ : decide (x3 > 0) = false := decide_eq_false c50
 refine .condF (b := decide (x3 > 0)) rfl c50_ ?_
 refine .sub (.bool 56 (b := decide (x3 > 0)) rfl c50_) ?_
 refine .st (mk 66 [] (L9 x3 ++ [(56, .b false)]) (H17 x1 a1 a2 x3 l39)) ?_
 refine .skip ?_
 refine thenQ_normal ?_
 refine .seqR ?_
 refine .runK [] 2 fun K hK => ?_; simp; refine hK _ _ ?_; clear hK K
 refine .tt [(6, .ptr 6 0 0)] [(6, some (.box [.i 1, .i a1, .i a2, .i x1.Term, .i x3, .i 0, .i x1.Commit, .ref 53 0 l39.length])), (53, R71 l39)] ?_
 refine .nil ?_
 refine .ret ?_
 obtain rfl := Option.some.inj h
 exact FinV.ret (.agg [.d (.lit (.int .i64 1)), .d (.lit (.int .i64 a1)), .d (.lit (.int .i64 a2)), .d (.lit (.int .i64 x1.Term)), .d (.lit (.int .i64 x3)), .d (.lit (.int .i64 0)), .d (.lit (.int .i64 x1.Commit)), .ref 53 0 l39.length]) 53 (k := (.arr 71 2 (l39.map cS64))) (by simp) (by simp) (by simp) (by simp) (flatN_arr (fun a => by simp [D.flat, cS64]) _) (by simp [viewR, only1]) (by simp)
/-- slices.Clone[[]stemma/replication.Message,stemma/replication.Message] -/
def d29 (_ : Nat) (a0 : (List S73)) : Option (List S73) := if a0.length * 80 ≤ Rp.reach then some a0 else none
theorem pl29 (N : Nat) (a0 : (List S73)) (r : (List S73)) (h : d29 N a0 = some r) : FunM Try.prog 29 [.ref 1000 0 a0.length] [(1000, R73 a0)] [1000] (.ref 5 0 r.length) [(5, .arr 73 8 (r.map cS73)), (1000, .arr 73 8 (a0.map cS73))] := by
 obtain ⟨hz, h⟩ := gsome h
 cases h
 refine FunM.enter 8 [(0, .ref 1000 0 a0.length)] Try.func29 rfl (of_decide_eq_true rfl) rfl rfl ?_
 refine .goR [] 1 fun K k => ?_; simp; refine k _ ?_; clear k K
 refine .seq ?_
 refine .seqR ?_
 refine .runK [] 1 fun K k => ?_; simp; refine k _ _ ?_; clear k K
 refine .eqNilRef (id := 1000) (off := 0) (len := a0.length) (by simp) rfl ty57 rfl (by simp) (by simp) fun b hb => ?_
 refine .nil ?_
 cases b with
 | true =>
  have he : a0 = [] := by
   cases a0 with
   | nil => rfl
   | cons x xs => exact absurd (hb (by simp)) (by simp)
  subst he
  refine .condK fun K1 K2 k1 k2 => ?_; simp; refine k1 ?_; clear k1 k2 K1 K2
  refine .goR [] 1 fun K k => ?_; simp; refine k _ ?_; clear k K
  refine .sub (.nilOwn (t := 2) (id := 5) (T := 73) (n := 8) rfl rfl (by decide)) ?_
  refine .st (mk 8 [1000] [(2, .ref 5 0 0)] [(5, some (.arr 73 8 [])), (1000, some (.arr 73 8 []))]) ?_
  refine .ret ?_
  exact thenQ_pass (by simp) (FinF.ret (by simp) (by simp))
 | false =>
  refine .condK fun K1 K2 k1 k2 => ?_; simp; refine k2 ?_; clear k1 k2 K1 K2
  refine .skip ?_
  refine thenQ_normal ?_
  refine .goR [] 4 fun K k => ?_; simp [hz]; refine k _ ?_; clear k K
  refine .tt [(2, .ref 5 0 a0.length)] [(5, R73 a0), (1000, R73 a0)] ?_
  refine .ret ?_
  exact FinF.ret (by simp) (by simp)

/-- slices.Delete[[]stemma/replication.Message,stemma/replication.Message] -/
def d28 (_ : Nat) (a0 : (List S73)) (a1 a2 : Int) : Option (List S73) := delL a0 a1 a2
theorem p28 (N : Nat) (a0 : (List S73)) (a1 a2 : Int) (r : (List S73)) (h : d28 N a0 a1 a2 = some r) : FunM Try.prog 28 [.ref 1000 0 a0.length, .i a1, .i a2] [(1000, some (.arr 73 8 (a0.map cS73)))] [] (.ref 1000 0 r.length) [(1000, .arr 73 8 (r.map cS73))] := by
 obtain ⟨i, j, rfl, rfl, hij, hj, hrl, hr⟩ := delL_some cS73 h
 have hes : ∀ x ∈ a0.map cS73, x.length = 8 := fun x hx => by
  obtain ⟨y, _, rfl⟩ := List.mem_map.1 hx
  rfl
 rw [hr, hrl]
 have hel : (a0.map cS73).length = a0.length := by simp
 rw [← hel] at hj hrl ⊢
 clear hel h hr hrl
 generalize a0.map cS73 = es at *
 refine FunM.enter 33 [(0, .ref 1000 0 es.length), (1, .i i), (2, .i j)] Try.func28 rfl (of_decide_eq_true rfl) rfl rfl ?_
 refine .goR [] 1 fun K k => ?_; simp; refine k _ ?_; clear k K
 refine .seqR ?_
 refine .runK [] 5 fun K k => ?_; simp; refine k _ _ ?_; clear k K
 have hjn : (j : Int) ≤ es.length := by omega
 have hin : (i : Int) ≤ j := by omega
 refine .slice3 (id := 1000) (off := 0) (len := es.length) (mq := es.length) (hq := j) (lq := i) (by simp) rfl ty57 rfl ty73 rfl (by simp [bnd]) (by simp [bnd, hj]) (by simp [bnd]; omega) ?_
 refine .nil ?_
 have hne : ¬ ((i : Int) = j) := by omega
 refine .seq ?_
 refine .goR [] 3 fun K k => ?_; simp; refine k _ ?_; clear k K
 refine .condK fun K1 K2 k1 k2 => ?_; simp [hne]; refine k2 ?_; clear k1 k2 K1 K2
 refine .skip ?_
 refine thenQ_normal ?_
 refine .goR [] 3 fun K k => ?_; simp; refine k _ ?_; clear k K
 refine .seqT 6 (by kernel_rfl) (by kernel_rfl) fun K k => ?_
 simp [show i ≤ es.length by omega, hj]; refine k _ _ ?_; clear k K
 have htk : List.take (es.length - j) (es.drop j) = es.drop j := List.take_of_length_le (by simp)
 refine .cut (mk 33 [] [(0, .ref 1000 0 (i + (es.length - j))), (7, .i es.length)] [(1000, some (.arr 73 8 (es.take i ++ (es.drop j ++ es.drop (i + (es.length - j))))))]) ?_ fun S' hS => AW.sub hS ?_
 ·by_cases hje : j = es.length
  ·have hdn : es.drop j = [] := by rw [hje]; simp
   refine Chain.appNo (id := 1000) (len := i) (es := es) (te := ⟨_, 8, 80, _⟩) (by simp) rfl rfl rfl rfl ty57 rfl ty73 rfl rfl (by simp [srcV, hje]) (by omega) (by omega) ?_
   refine .runK [] 1 fun K k => ?_; simp; refine k _ _ ?_; clear k K
   refine .nil ?_
   exact Sub.table (by simp [hje]) (by simp [hje])
  ·refine Chain.appIn (id := 1000) (len := i) (es := es) (ys := es.drop j) (te := ⟨_, 8, 80, _⟩) (by simp) rfl rfl rfl rfl ty57 rfl ty73 rfl rfl (by simp [srcV, show j + (es.length - j) ≤ es.length by omega]) (fun y hy => hes y (List.mem_of_mem_drop hy)) (by simp; omega) (by simp; omega) ?_
   refine .runK [] 1 fun K k => ?_; simp; refine k _ _ ?_; clear k K
   refine .nil ?_
   exact Sub.table (by simp) (by simp)
 have hl2 : (es.take i ++ (es.drop j ++ es.drop (i + (es.length - j)))).length = es.length := by simp; omega
 have hes2 : ∀ x ∈ (es.take i ++ (es.drop j ++ es.drop (i + (es.length - j)))), x.length = 8 := fun x hx => by
  rcases List.mem_append.1 hx with hx | hx
  ·exact hes x (List.mem_of_mem_take hx)
  ·rcases List.mem_append.1 hx with hx | hx
   ·exact hes x (List.mem_of_mem_drop hx)
   ·exact hes x (List.mem_of_mem_drop hx)
 have htk2 : (es.take i ++ (es.drop j ++ es.drop (i + (es.length - j)))).take (i + (es.length - j)) = es.take i ++ es.drop j := by
  rw [← List.append_assoc]
  exact List.take_left' (by simp; omega)
 generalize (es.take i ++ (es.drop j ++ es.drop (i + (es.length - j)))) = es2 at hl2 hes2 htk2 ⊢
 refine .seqR ?_
 refine .runK [] 4 fun K k => ?_; simp; refine k _ _ ?_; clear k K
 refine Chain.sliceX (id := 1000) (off := 0) (len := i + (es.length - j)) (es := es2) (hq := es.length) (lq := i + (es.length - j)) (te := ⟨_, 8, 80, _⟩) (by simp) rfl ty57 rfl ty73 rfl rfl (by omega) (by omega) (by simp [bnd, hl2]) (by simp [bnd]; omega) ?_
 simp
 refine Chain.clear (id := 1000) (off := i + (es.length - j)) (len := es.length - (i + (es.length - j))) (es := es2) (te := ⟨_, 8, 80, _⟩) (by simp) rfl rfl rfl rfl ty57 rfl ty73 (by simp) (by simp) rfl rfl (by omega) (by omega) ?_
 simp
 refine .nil ?_
 refine .goR [] 2 fun K k => ?_; simp; refine k _ ?_; clear k K
 have hcl : ∀ zs : List (List D), List.take (i + (es.length - j)) (es.take i ++ (es.drop j ++ zs)) = es.take i ++ es.drop j := fun zs => by
  rw [← List.append_assoc]
  exact List.take_left' (by simp; omega)
 refine .sub (.cut 1000 (i + (es.length - j)) rfl) ?_
 refine .sub (S' := mk 33 [] [(6, .ref 1000 0 (i + (es.length - j)))] [(1000, some (.arr 73 8 (es.take i ++ es.drop j)))]) (by simp [htk2]; exact Sub.table (by simp) (by simp [hcl])) ?_
 refine .ret ?_
 exact FinF.ret (by simp) (by simp)

end Go.Proofs.Ytifcmomjjkbboab
