/- Functions of the program as functional programs; the code computes them. -/
import Derived.Test.YtimkkjiplioohaaGreatDoorJa2
namespace Go.Proofs.YtimkkjiplioohaaGreatDoor
open Go.Ab Go.Rp
attribute [-simp] List.all_eq_true Array.all_toList Array.all_eq_true

/-- slices.Grow[stemma/api.Row,stemma/api.Value], of nil -/
theorem p64 (_ : Nat) (a1 : Int) {u : Unit} (h : growL 32 a1 = some u) : FunO Tryz.prog 64 [.d (.lit (.slice none 0 0)), .d (.lit (.int .i64 a1))] (.ref 0 0 ([] : (List S61)).length) (.arr 61 3 (([] : (List S61)).map cS61)) := by
 obtain ⟨k, rfl, hb⟩ := growL_some h
 refine FunO.enter 27 [(0, .d (.lit (.slice none 0 0))), (1, .i k)] Tryz.func64 rfl (of_decide_eq_true rfl) rfl rfl ?_
 refine AW.goR [] 1 fun K hK => ?_; simp; refine hK _ ?_; clear hK K
 refine AW.seq ?_
 refine AW.goR [] 2 fun K hK => ?_; simp; refine hK _ ?_; clear hK K
 have hkn : ¬ ((k : Int) < 0) := by omega
 refine AW.condK fun K1 K2 k1 k2 => ?_; simp [hkn]; refine k2 ?_; clear k1 k2 K1 K2
 refine AW.skip ?_
 refine thenQ_normal ?_
 refine AW.seq ?_
 refine AW.seqR ?_
 refine Chain.runK [] 2 fun K hK => ?_; simp; refine hK _ _ ?_; clear hK K
 refine Chain.pureP (by simp) (pure_capNil rfl rfl rfl ty57 rfl rfl) ?_
 have hw0 : IntKind.i64.wrap 0 = 0 := rfl
 have hw : IntKind.i64.wrap (k : Int) = k := wrap_ok ⟨by omega, by unfold Rp.reach at hb; omega⟩
 refine Chain.runK [] 5 fun K hK => ?_; simp [hw, hw0]; refine hK _ _ ?_; clear hK K
 refine Chain.nil ?_
 refine AW.goR [] 2 fun K hK => ?_; simp; refine hK _ ?_; clear hK K
 rcases Nat.eq_zero_or_pos k with hk | hk
 ·subst hk
  refine AW.condK fun K1 K2 k1 k2 => ?_; simp; refine k2 ?_; clear k1 k2 K1 K2
  refine AW.skip ?_
  refine thenQ_normal ?_
  refine AW.goR [] 2 fun K hK => ?_; simp; refine hK _ ?_; clear hK K
  refine AW.sub (Sub.nilOwn (t := 4) (id := 900) (T := 61) (n := 3) rfl rfl (by decide)) ?_
  refine AW.sub (S' := mk 27 [] [(4, .ref 900 0 0)] [(900, some (.arr 61 3 []))]) (by simp; exact Sub.table (by simp) (by simp)) ?_
  refine AW.ret ?_
  exact FinO.ret (.ref 900 0 0) 900 (by simp) (by simp) (by simp) (by simp) rfl
 ·have hk0 : ¬ k = 0 := by omega
  refine AW.condK fun K1 K2 k1 k2 => ?_; simp [hk]; refine k1 ?_; clear k1 k2 K1 K2
  refine AW.region ?_
  refine Chain.runK [] 2 fun K hK => ?_; simp; refine hK _ _ ?_; clear hK K
  refine Chain.pureP (by simp) (pure_capNil rfl rfl rfl ty57 rfl rfl) ?_
  refine Chain.pureP (by simp) (pure_sliceNil ty57 rfl ty61 rfl rfl) ?_
  refine Chain.runK [] 1 fun K hK => ?_; simp; refine hK _ _ ?_; clear hK K
  refine Chain.appMk (d := 22) (n := k) (te := ⟨_, 3, 32, _⟩) (by simp) rfl rfl rfl rfl ty57 rfl ty3 rfl ty61 rfl (by simp) rfl rfl hk (by decide) (by decide) rfl rfl hb ?_
  simp
  refine Chain.sub (S' := mk 27 [] [(0, .d (.lit (.slice none 0 0))), (22, .ref 22 0 k)] [(22, some (.arr 61 3 (List.replicate k [.lit (.int .i64 0), .lit (.int .i64 0), .lit (.string (ByteArray.mk #[]))])))]) Sub.tt ?_
  refine Chain.runK [] 4 fun K hK => ?_; simp; refine hK _ _ ?_; clear hK K
  refine Chain.nil ?_
  refine thenQ_normal ?_
  refine AW.goR [] 2 fun K hK => ?_; simp; refine hK _ ?_; clear hK K
  refine AW.sub (Sub.cut 22 0 rfl) ?_
  refine AW.sub (S' := mk 27 [] [(4, .ref 22 0 0)] [(22, some (.arr 61 3 []))]) (by simp; exact Sub.table (by simp) (by simp)) ?_
  refine AW.ret ?_
  exact FinO.ret (.ref 22 0 0) 22 (by simp) (by simp) (by simp) (by simp) rfl

/-- slices.Concat[stemma/api.Row,stemma/api.Value] -/
def d27 (N : Nat) (a0 : (List (List S61))) : Option (List S61) :=
 Option.bind (α := Int) (
  iterN (σ := (Int × Int)) (ρ := Int) (fun ((v6, v7) : (Int × Int)) =>
   if v7 < (a0.length : Int) then (
    (idx a0 v7).bind fun x24 =>
    (chkI (v6 + (x24.length : Int))).bind fun v26 =>
    if v26 < 0 then (
     none
    ) else
    (chkI (v7 + 1)).bind fun v28 =>
    some (.inl (v26, v28))
   ) else
   some (.inr v6)
  ) N (0, 0)
 ) fun (v22 : Int) =>
 (growL 32 v22).bind fun _ =>
 Option.bind (α := List S61) (
  iterN (σ := ((List S61) × Int)) (ρ := List S61) (fun ((l34, v35) : ((List S61) × Int)) =>
   if v35 < (a0.length : Int) then (
    (idx a0 v35).bind fun x50 =>
    (appL 32 l34 x50).bind fun _l52 =>
    (chkI (v35 + 1)).bind fun v53 =>
    some (.inl ((l34 ++ x50), v53))
   ) else
   some (.inr l34)
  ) N (([] : List S61), 0)
 ) fun (l48 : List S61) =>
 some l48
set_option maxRecDepth 100000 in
set_option maxHeartbeats 4000000 in
theorem p27 (N : Nat) (a0 : (List (List S61))) (r : (List S61)) (h : d27 N a0 = some r) : FunC Tryz.prog 27 [.d (.sl (a0.map (cL cS61)))] (.d (.sl (r.map cS61))) := by
 unfold d27 at h
 refine FunC.enter 36 [(0, .d (.sl (a0.map (cL cS61))))] (by simp) Tryz.func27 rfl (of_decide_eq_true rfl) rfl rfl ?_
 refine AW.seqR ?_
 refine Chain.runK [] 1 fun K hK => ?_; simp; refine hK _ _ ?_; clear hK K
 refine Chain.sub (S' := mk 36 [] [(0, .d (.sl (a0.map (cL cS61))))] []) Sub.tt ?_
 refine Chain.nil ?_
 refine AW.seqR ?_
 refine Chain.runK [] 1 fun K hK => ?_; simp; refine hK _ _ ?_; clear hK K
 refine Chain.sub (S' := mk 36 [] [(0, .d (.sl (a0.map (cL cS61)))), (3, .i 0)] []) Sub.tt ?_
 refine Chain.nil ?_
 refine AW.seq ?_
 refine AW.seqR ?_
 refine Chain.runK [] 3 fun K hK => ?_; simp; refine hK _ _ ?_; clear hK K
 refine Chain.sub (S' := mk 36 [] [(0, .d (.sl (a0.map (cL cS61)))), (3, .i 0), (9, .d (.sl (a0.map (cL cS61)))), (10, .i (a0.length : Int)), (11, .i 0)] []) Sub.tt ?_
 refine Chain.nil ?_
 refine AW.lastN (fun (v22 : Int) => mk 36 [] [(0, .d (.sl (a0.map (cL cS61)))), (3, .i v22)] []) h ?_ ?_ <;> clear h
 ·intro o h
  refine AW.block ?_
  refine AW.iter (fun ((v6, v7) : (Int × Int)) => mk 36 [] [(0, .d (.sl (a0.map (cL cS61)))), (3, .i v6), (9, .d (.sl (a0.map (cL cS61)))), (10, .i (a0.length : Int)), (11, .i v7)] []) h Sub.tt ?_
  clear h
  rintro ⟨v6, v7⟩ x h
  dsimp only at h ⊢
  refine AW.seqR ?_
  refine Chain.runK [] 1 fun K hK => ?_; simp; refine hK _ _ ?_; clear hK K
  refine Chain.sub (S' := mk 36 [] [(0, .d (.sl (a0.map (cL cS61)))), (3, .i v6), (9, .d (.sl (a0.map (cL cS61)))), (10, .i (a0.length : Int)), (11, .i v7), (12, .b (decide (v7 < (a0.length : Int))))] []) Sub.tt ?_
  refine Chain.nil ?_
  refine AW.seq ?_
  replace h := isome h; rcases h with ⟨c23, h⟩ | ⟨c23, h⟩
  ·have c23_ : decide (v7 < (a0.length : Int)) = true := decide_eq_true c23
   refine AW.condT (b := decide (v7 < (a0.length : Int))) rfl c23_ ?_
   refine AW.sub (Sub.bool 12 (b := decide (v7 < (a0.length : Int))) rfl c23_) ?_
   refine AW.sub (S' := mk 36 [] [(0, .d (.sl (a0.map (cL cS61)))), (3, .i v6), (9, .d (.sl (a0.map (cL cS61)))), (10, .i (a0.length : Int)), (11, .i v7), (12, .b true)] []) (by simp; exact Sub.table (by simp) (by simp)) ?_
   refine AW.skip ?_
   refine thenQ_normal ?_
   refine AW.seq ?_
   refine AW.block ?_
   refine AW.seqR ?_
   replace h := bsome h; obtain ⟨x24, hx24, h⟩ := h
   obtain ⟨k25, hx24k, hx24, hx24a, hx24b⟩ := idx_some hx24
   refine Chain.runK [] 3 fun K hK => ?_; simp [hx24, hx24k, hx24a]; refine hK _ _ ?_; clear hK K
   refine Chain.sub (S' := mk 36 [] [(0, .d (.sl (a0.map (cL cS61)))), (3, .i v6), (5, .d (.sl (x24.map cS61))), (9, .d (.sl (a0.map (cL cS61)))), (10, .i (a0.length : Int)), (11, .i v7)] []) Sub.tt ?_
   refine Chain.nil ?_
   refine AW.seqR ?_
   replace h := bsome h; obtain ⟨v26, hv26, h⟩ := h
   have hv26 := chkI_some hv26
   refine Chain.runK [] 5 fun K hK => ?_; simp [hv26]; refine hK _ _ ?_; clear hK K
   refine Chain.sub (S' := mk 36 [] [(0, .d (.sl (a0.map (cL cS61)))), (3, .i v26), (9, .d (.sl (a0.map (cL cS61)))), (10, .i (a0.length : Int)), (11, .i v7)] []) Sub.tt ?_
   refine Chain.nil ?_
   refine AW.seqR ?_
   refine Chain.runK [] 2 fun K hK => ?_; simp; refine hK _ _ ?_; clear hK K
   refine Chain.sub (S' := mk 36 [] [(0, .d (.sl (a0.map (cL cS61)))), (3, .i v26), (9, .d (.sl (a0.map (cL cS61)))), (10, .i (a0.length : Int)), (11, .i v7), (20, .b (decide (v26 < 0)))] []) Sub.tt ?_
   refine Chain.nil ?_
   replace h := isome h; rcases h with ⟨c27, h⟩ | ⟨c27, h⟩
   ·have c27_ : decide (v26 < 0) = true := decide_eq_true c27
    refine AW.condT (b := decide (v26 < 0)) rfl c27_ ?_
    refine AW.sub (Sub.bool 20 (b := decide (v26 < 0)) rfl c27_) ?_
    refine AW.sub (S' := mk 36 [] [(0, .d (.sl (a0.map (cL cS61)))), (3, .i v26), (9, .d (.sl (a0.map (cL cS61)))), (10, .i (a0.length : Int)), (11, .i v7), (20, .b true)] []) (by simp; exact Sub.table (by simp) (by simp)) ?_
    cases h
   ·have c27_ : decide (v26 < 0) = false := decide_eq_false c27
    refine AW.condF (b := decide (v26 < 0)) rfl c27_ ?_
    refine AW.sub (Sub.bool 20 (b := decide (v26 < 0)) rfl c27_) ?_
    refine AW.sub (S' := mk 36 [] [(0, .d (.sl (a0.map (cL cS61)))), (3, .i v26), (9, .d (.sl (a0.map (cL cS61)))), (10, .i (a0.length : Int)), (11, .i v7), (20, .b false)] []) (by simp; exact Sub.table (by simp) (by simp)) ?_
    refine AW.skip ?_
    refine blockQ.normal ?_
    refine thenQ_normal ?_
    refine AW.region ?_
    replace h := bsome h; obtain ⟨v28, hv28, h⟩ := h
    have hv28 := chkI_some hv28
    refine Chain.runK [] 2 fun K hK => ?_; simp [hv28]; refine hK _ _ ?_; clear hK K
    refine Chain.sub (S' := mk 36 [] [(0, .d (.sl (a0.map (cL cS61)))), (3, .i v26), (9, .d (.sl (a0.map (cL cS61)))), (10, .i (a0.length : Int)), (11, .i v28)] []) Sub.tt ?_
    refine Chain.nil ?_
    cases h
    refine PostI.next ?_
    exact Sub.tt
  ·have c23_ : decide (v7 < (a0.length : Int)) = false := decide_eq_false c23
   refine AW.condF (b := decide (v7 < (a0.length : Int))) rfl c23_ ?_
   refine AW.sub (Sub.bool 12 (b := decide (v7 < (a0.length : Int))) rfl c23_) ?_
   refine AW.sub (S' := mk 36 [] [(0, .d (.sl (a0.map (cL cS61)))), (3, .i v6), (9, .d (.sl (a0.map (cL cS61)))), (10, .i (a0.length : Int)), (11, .i v7), (12, .b false)] []) (by simp; exact Sub.table (by simp) (by simp)) ?_
   refine AW.exit ?_
   cases h
   refine thenQ_pass (by simp) ?_
   refine PostI.out (by simp) ?_
   rintro rfl
   refine blockQ.hit ?_
   refine PostN.next ?_
   exact Sub.tt
 ·rintro v22 h
  refine thenQ_normal ?_
  refine AW.seqR ?_
  refine Chain.runK [] 1 fun K hK => ?_; simp; refine hK _ _ ?_; clear hK K
  refine Chain.sub (S' := mk 36 [] [(0, .d (.sl (a0.map (cL cS61)))), (23, .i v22)] []) Sub.tt ?_
  replace h := bsome h; obtain ⟨g29, hg29, h⟩ := h
  refine Chain.callO (d := 24) (p64 N v22 hg29) (by simp) rfl rfl (by simp <;> rfl) (by simp <;> rfl) ent64 (by simp) ⟨by simp, by simp⟩ ?_
  refine Chain.sub (S' := mk 36 [] [(0, .d (.sl (a0.map (cL cS61)))), (23, .i v22), (24, .ref 24 0 (([] : List S61).length))] [(24, R61 ([] : List S61))]) (by simp; exact Sub.table (by simp) (by simp)) ?_
  refine Chain.runK [] 1 fun K hK => ?_; simp; refine hK _ _ ?_; clear hK K
  refine Chain.sub (S' := mk 36 [] [(0, .d (.sl (a0.map (cL cS61)))), (6, .ref 24 0 (([] : List S61).length))] [(24, R61 ([] : List S61))]) Sub.tt ?_
  refine Chain.nil ?_
  refine AW.seq ?_
  refine AW.seqR ?_
  refine Chain.runK [] 3 fun K hK => ?_; simp; refine hK _ _ ?_; clear hK K
  refine Chain.sub (S' := mk 36 [] [(6, .ref 24 0 (([] : List S61).length)), (25, .d (.sl (a0.map (cL cS61)))), (26, .i (a0.length : Int)), (27, .i 0)] [(24, R61 ([] : List S61))]) Sub.tt ?_
  refine Chain.nil ?_
  refine AW.lastN (fun (l48 : List S61) => mk 36 [] [(6, .ref 24 0 l48.length)] [(24, R61 l48)]) h ?_ ?_ <;> clear h
  ·intro o h
   refine AW.block ?_
   refine AW.iter (fun ((l34, v35) : ((List S61) × Int)) => mk 36 [] [(6, .ref 24 0 l34.length), (25, .d (.sl (a0.map (cL cS61)))), (26, .i (a0.length : Int)), (27, .i v35)] [(24, R61 l34)]) h Sub.tt ?_
   clear h
   rintro ⟨l34, v35⟩ x h
   dsimp only at h ⊢
   refine AW.seqR ?_
   refine Chain.runK [] 1 fun K hK => ?_; simp; refine hK _ _ ?_; clear hK K
   refine Chain.sub (S' := mk 36 [] [(6, .ref 24 0 l34.length), (25, .d (.sl (a0.map (cL cS61)))), (26, .i (a0.length : Int)), (27, .i v35), (28, .b (decide (v35 < (a0.length : Int))))] [(24, R61 l34)]) Sub.tt ?_
   refine Chain.nil ?_
   refine AW.seq ?_
   replace h := isome h; rcases h with ⟨c49, h⟩ | ⟨c49, h⟩
   ·have c49_ : decide (v35 < (a0.length : Int)) = true := decide_eq_true c49
    refine AW.condT (b := decide (v35 < (a0.length : Int))) rfl c49_ ?_
    refine AW.sub (Sub.bool 28 (b := decide (v35 < (a0.length : Int))) rfl c49_) ?_
    refine AW.sub (S' := mk 36 [] [(6, .ref 24 0 l34.length), (25, .d (.sl (a0.map (cL cS61)))), (26, .i (a0.length : Int)), (27, .i v35), (28, .b true)] [(24, R61 l34)]) (by simp; exact Sub.table (by simp) (by simp)) ?_
    refine AW.skip ?_
    refine thenQ_normal ?_
    refine AW.seq ?_
    refine AW.block ?_
    refine AW.seqR ?_
    replace h := bsome h; obtain ⟨x50, hx50, h⟩ := h
    obtain ⟨k51, hx50k, hx50, hx50a, hx50b⟩ := idx_some hx50
    refine Chain.runK [] 3 fun K hK => ?_; simp [hx50, hx50k, hx50a]; refine hK _ _ ?_; clear hK K
    refine Chain.sub (S' := mk 36 [] [(6, .ref 24 0 l34.length), (8, .d (.sl (x50.map cS61))), (25, .d (.sl (a0.map (cL cS61)))), (26, .i (a0.length : Int)), (27, .i v35)] [(24, R61 l34)]) Sub.tt ?_
    refine Chain.nil ?_
    refine AW.region ?_
    replace h := bsome h; obtain ⟨l52, hl52, h⟩ := h
    obtain ⟨hl52a, hl52⟩ := appL_some hl52
    subst hl52
    try simp only [List.length_append, List.length_cons, List.length_nil, Nat.zero_add, Nat.mul_one] at hl52a
    refine Chain.runK [] 4 fun K hK => ?_; simp [hl52a]; refine hK _ _ ?_; clear hK K
    refine Chain.sub (S' := mk 36 [] [(6, .ref 24 0 ((l34 ++ x50).length)), (25, .d (.sl (a0.map (cL cS61)))), (26, .i (a0.length : Int)), (27, .i v35)] [(24, R61 (l34 ++ x50))]) Sub.tt ?_
    refine Chain.nil ?_
    refine blockQ.normal ?_
    refine thenQ_normal ?_
    refine AW.region ?_
    replace h := bsome h; obtain ⟨v53, hv53, h⟩ := h
    have hv53 := chkI_some hv53
    refine Chain.runK [] 2 fun K hK => ?_; simp [hv53]; refine hK _ _ ?_; clear hK K
    refine Chain.sub (S' := mk 36 [] [(6, .ref 24 0 ((l34 ++ x50).length)), (25, .d (.sl (a0.map (cL cS61)))), (26, .i (a0.length : Int)), (27, .i v53)] [(24, R61 (l34 ++ x50))]) Sub.tt ?_
    refine Chain.nil ?_
    cases h
    refine PostI.next ?_
    exact Sub.tt
   ·have c49_ : decide (v35 < (a0.length : Int)) = false := decide_eq_false c49
    refine AW.condF (b := decide (v35 < (a0.length : Int))) rfl c49_ ?_
    refine AW.sub (Sub.bool 28 (b := decide (v35 < (a0.length : Int))) rfl c49_) ?_
    refine AW.sub (S' := mk 36 [] [(6, .ref 24 0 l34.length), (25, .d (.sl (a0.map (cL cS61)))), (26, .i (a0.length : Int)), (27, .i v35), (28, .b false)] [(24, R61 l34)]) (by simp; exact Sub.table (by simp) (by simp)) ?_
    refine AW.exit ?_
    cases h
    refine thenQ_pass (by simp) ?_
    refine PostI.out (by simp) ?_
    rintro rfl
    refine blockQ.hit ?_
    refine PostN.next ?_
    exact Sub.tt
  ·rintro l48 h
   refine thenQ_normal ?_
   refine AW.seqR ?_
   refine Chain.runK [] 2 fun K hK => ?_; simp; refine hK _ _ ?_; clear hK K
   refine Chain.sub (S' := mk 36 [] [(2, .ref 24 0 l48.length)] [(24, R61 l48)]) Sub.tt ?_
   refine Chain.nil ?_
   refine AW.sub (Sub.freeze 24 rfl) ?_
   refine AW.sub (S' := mk 36 [] [(2, .d (.sl (l48.map cS61)))] []) (by simp; exact Sub.table (by simp) (by simp)) ?_
   refine AW.ret ?_
   cases h
   exact FinC.ret (by simp) (by simp)

/-- stemma/joinalgo.pair -/
def d59 (N : Nat) (a0 : (List S61)) (a1 : (List S61)) : Option (List S61) :=
 letv ([a0, a1] : List (List S61)) fun l1 =>
 (d27 N l1).bind fun r2 =>
 some r2
set_option maxRecDepth 100000 in
set_option maxHeartbeats 4000000 in
theorem p59 (N : Nat) (a0 : (List S61)) (a1 : (List S61)) (r : (List S61)) (h : d59 N a0 a1 = some r) : FunC Tryz.prog 59 [.d (.sl (a0.map cS61)), .d (.sl (a1.map cS61))] (.d (.sl (r.map cS61))) := by
 unfold d59 at h
 refine FunC.enter 9 [(0, .d (.sl (a0.map cS61))), (1, .d (.sl (a1.map cS61)))] (by simp) Tryz.func59 rfl (of_decide_eq_true rfl) rfl rfl ?_
 refine AW.seqR ?_
 refine Chain.runK [] 1 fun K hK => ?_; simp; refine hK _ _ ?_; clear hK K
 refine Chain.sub (S' := mk 9 [] [(0, .d (.sl (a0.map cS61))), (1, .d (.sl (a1.map cS61)))] []) Sub.tt ?_
 refine Chain.nil ?_
 refine AW.seqR ?_
 refine Chain.runK [] 3 fun K hK => ?_; simp; refine hK _ _ ?_; clear hK K
 refine Chain.sub (Sub.wkRow 7 rfl) ?_
 replace h := lsome h; obtain ⟨l1, hl1, h⟩ := h
 refine Chain.sub (S' := mk 9 [] [(0, .d (.sl (a0.map cS61))), (1, .d (.sl (a1.map cS61))), (5, .d (.sl (a0.map cS61))), (6, .d (.sl (a1.map cS61))), (7, .ref 7 0 l1.length)] [(7, R57 l1)]) (by simp; subst hl1; exact Sub.table (by simp) (by simp)) ?_
 refine Chain.sub (Sub.freeze 7 rfl) ?_
 refine Chain.sub (S' := mk 9 [] [(0, .d (.sl (a0.map cS61))), (1, .d (.sl (a1.map cS61))), (5, .d (.sl (a0.map cS61))), (6, .d (.sl (a1.map cS61))), (7, .d (.sl (l1.map (cL cS61))))] []) (by simp; exact Sub.table (by simp) (by simp)) ?_
 replace h := bsome h; obtain ⟨r2, hr2, h⟩ := h
 refine Chain.callC (d := 8) (p27 N l1 r2 hr2) (by simp) rfl rfl (by simp <;> rfl) (by simp <;> rfl) ent27 (by simp) (.inl ⟨by simp, by simp⟩) ?_
 refine Chain.sub (S' := mk 9 [] [(0, .d (.sl (a0.map cS61))), (1, .d (.sl (a1.map cS61))), (5, .d (.sl (a0.map cS61))), (6, .d (.sl (a1.map cS61))), (7, .d (.sl (l1.map (cL cS61)))), (8, .d (.sl (r2.map cS61)))] []) (by simp; exact Sub.table (by simp) (by simp)) ?_
 refine Chain.runK [] 1 fun K hK => ?_; simp; refine hK _ _ ?_; clear hK K
 refine Chain.sub (S' := mk 9 [] [(4, .d (.sl (r2.map cS61)))] []) Sub.tt ?_
 refine Chain.nil ?_
 refine AW.ret ?_
 cases h
 exact FinC.ret (by simp) (by simp)

/-- stemma/joinalgo.alone -/
def d60 (N : Nat) (a0 : (List S61)) (a1 : S50) : Option (List S61) :=
 (mkL 32 a1.RightWidth ((S61.mk 0 0 (ByteArray.mk #[])) : S61)).bind fun l1 =>
 letv ([a0, l1] : List (List S61)) fun l2 =>
 (d27 N l2).bind fun r3 =>
 some r3
set_option maxRecDepth 100000 in
set_option maxHeartbeats 4000000 in
theorem p60 (N : Nat) (a0 : (List S61)) (a1 : S50) (r : (List S61)) (h : d60 N a0 a1 = some r) : FunC Tryz.prog 60 [.d (.sl (a0.map cS61)), .agg [.d (.sl (a1.Left.map (cI .i64))), .d (.sl (a1.Right.map (cI .i64))), .b a1.Outer, .i a1.RightWidth]] (.d (.sl (r.map cS61))) := by
 unfold d60 at h
 refine FunC.enter 11 [(0, .d (.sl (a0.map cS61))), (1, .agg [.d (.sl (a1.Left.map (cI .i64))), .d (.sl (a1.Right.map (cI .i64))), .b a1.Outer, .i a1.RightWidth])] (by simp) Tryz.func60 rfl (of_decide_eq_true rfl) rfl rfl ?_
 refine AW.seqR ?_
 refine Chain.runK [] 2 fun K hK => ?_; simp; refine hK _ _ ?_; clear hK K
 refine Chain.sub (S' := mk 11 [] [(0, .d (.sl (a0.map cS61))), (3, .ptr 3 0 0)] [(3, BX a1)]) Sub.tt ?_
 refine Chain.nil ?_
 refine AW.seqR ?_
 replace h := bsome h; obtain ⟨l1, gl1, h⟩ := h
 obtain ⟨hl1a, hl1b, hl1c, hl1d⟩ := mkL_some cS61 gl1
 clear gl1
 replace hl1c : List.replicate l1.length [.lit (.int .i64 0), .lit (.int .i64 0), .lit (.string (ByteArray.mk #[]))] = l1.map cS61 := hl1c
 refine Chain.runK [] 4 fun K hK => ?_; simp [hl1a, hl1b, hl1c, hl1d]; refine hK _ _ ?_; clear hK K
 refine Chain.sub (S' := mk 11 [] [(5, .d (.sl (a0.map cS61))), (8, .ref 8 0 l1.length)] [(8, R61 l1)]) Sub.tt ?_
 refine Chain.sub (Sub.freeze 8 rfl) ?_
 refine Chain.sub (S' := mk 11 [] [(5, .d (.sl (a0.map cS61))), (8, .d (.sl (l1.map cS61)))] []) (by simp; exact Sub.table (by simp) (by simp)) ?_
 refine Chain.runK [] 1 fun K hK => ?_; simp; refine hK _ _ ?_; clear hK K
 refine Chain.sub (Sub.wkRow 9 rfl) ?_
 replace h := lsome h; obtain ⟨l2, hl2, h⟩ := h
 refine Chain.sub (S' := mk 11 [] [(5, .d (.sl (a0.map cS61))), (8, .d (.sl (l1.map cS61))), (9, .ref 9 0 l2.length)] [(9, R57 l2)]) (by simp; subst hl2; exact Sub.table (by simp) (by simp)) ?_
 refine Chain.sub (Sub.freeze 9 rfl) ?_
 refine Chain.sub (S' := mk 11 [] [(5, .d (.sl (a0.map cS61))), (8, .d (.sl (l1.map cS61))), (9, .d (.sl (l2.map (cL cS61))))] []) (by simp; exact Sub.table (by simp) (by simp)) ?_
 replace h := bsome h; obtain ⟨r3, hr3, h⟩ := h
 refine Chain.callC (d := 10) (p27 N l2 r3 hr3) (by simp) rfl rfl (by simp <;> rfl) (by simp <;> rfl) ent27 (by simp) (.inl ⟨by simp, by simp⟩) ?_
 refine Chain.sub (S' := mk 11 [] [(5, .d (.sl (a0.map cS61))), (8, .d (.sl (l1.map cS61))), (9, .d (.sl (l2.map (cL cS61)))), (10, .d (.sl (r3.map cS61)))] []) (by simp; exact Sub.table (by simp) (by simp)) ?_
 refine Chain.runK [] 1 fun K hK => ?_; simp; refine hK _ _ ?_; clear hK K
 refine Chain.sub (S' := mk 11 [] [(4, .d (.sl (r3.map cS61)))] []) Sub.tt ?_
 refine Chain.nil ?_
 refine AW.ret ?_
 cases h
 exact FinC.ret (by simp) (by simp)

end Go.Proofs.YtimkkjiplioohaaGreatDoor
