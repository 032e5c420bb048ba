/- Functions of the program as functional programs; the code computes them. -/
import Derived.Test.YtifcmomjjkbboaaSc0
namespace Go.Proofs.Ytifcmomjjkbboaa
open Go.Ab Go.Rp
attribute [-simp] List.all_eq_true Array.all_toList Array.all_eq_true

/-- slices.Grow[[]stemma/serializability.Operation,stemma/serializability.Operation], of nil -/
theorem p39 (_ : Nat) (a1 : Int) {u : Unit} (h : growL 32 a1 = some u) : FunO Try.prog 39 [.d (.lit (.slice none 0 0)), .d (.lit (.int .i64 a1))] (.ref 0 0 ([] : (List S27)).length) (.arr 27 3 (([] : (List S27)).map cS27)) := by
 obtain ⟨k, rfl, hb⟩ := growL_some h
 refine FunO.enter 27 [(0, .d (.lit (.slice none 0 0))), (1, .i k)] Try.func39 rfl (of_decide_eq_true rfl) rfl rfl ?_
 refine AW.goR [] 1 fun K hK => ?_; simp; refine hK _ ?_; clear hK K
 refine AW.seq ?_
 refine AW.goR [] 2 fun K hK => ?_; simp; refine hK _ ?_; clear hK K
 have hkn : ¬ ((k : Int) < 0) := by omega
 refine AW.condK fun K1 K2 k1 k2 => ?_; simp [hkn]; refine k2 ?_; clear k1 k2 K1 K2
 refine AW.skip ?_
 refine thenQ_normal ?_
 refine AW.seq ?_
 refine AW.seqR ?_
 refine Chain.runK [] 2 fun K hK => ?_; simp; refine hK _ _ ?_; clear hK K
 refine Chain.pureP (by simp) (pure_capNil rfl rfl rfl ty28 rfl rfl) ?_
 have hw0 : IntKind.i64.wrap 0 = 0 := rfl
 have hw : IntKind.i64.wrap (k : Int) = k := wrap_ok ⟨by omega, by unfold Rp.reach at hb; omega⟩
 refine Chain.runK [] 5 fun K hK => ?_; simp [hw, hw0]; refine hK _ _ ?_; clear hK K
 refine Chain.nil ?_
 refine AW.goR [] 2 fun K hK => ?_; simp; refine hK _ ?_; clear hK K
 rcases Nat.eq_zero_or_pos k with hk | hk
 ·subst hk
  refine AW.condK fun K1 K2 k1 k2 => ?_; simp; refine k2 ?_; clear k1 k2 K1 K2
  refine AW.skip ?_
  refine thenQ_normal ?_
  refine AW.goR [] 2 fun K hK => ?_; simp; refine hK _ ?_; clear hK K
  refine AW.sub (Sub.nilOwn (t := 4) (id := 900) (T := 27) (n := 3) rfl rfl (by decide)) ?_
  refine AW.sub (S' := mk 27 [] [(4, .ref 900 0 0)] [(900, some (.arr 27 3 []))]) (by simp; exact Sub.table (by simp) (by simp)) ?_
  refine AW.ret ?_
  exact FinO.ret (.ref 900 0 0) 900 (by simp) (by simp) (by simp) (by simp) rfl
 ·have hk0 : ¬ k = 0 := by omega
  refine AW.condK fun K1 K2 k1 k2 => ?_; simp [hk]; refine k1 ?_; clear k1 k2 K1 K2
  refine AW.region ?_
  refine Chain.runK [] 2 fun K hK => ?_; simp; refine hK _ _ ?_; clear hK K
  refine Chain.pureP (by simp) (pure_capNil rfl rfl rfl ty28 rfl rfl) ?_
  refine Chain.pureP (by simp) (pure_sliceNil ty28 rfl ty27 rfl rfl) ?_
  refine Chain.runK [] 1 fun K hK => ?_; simp; refine hK _ _ ?_; clear hK K
  refine Chain.appMk (d := 22) (n := k) (te := ⟨_, 3, 32, _⟩) (by simp) rfl rfl rfl rfl ty28 rfl ty3 rfl ty27 rfl (by simp) rfl rfl hk (by decide) (by decide) rfl rfl hb ?_
  simp
  refine Chain.sub (S' := mk 27 [] [(0, .d (.lit (.slice none 0 0))), (22, .ref 22 0 k)] [(22, some (.arr 27 3 (List.replicate k [.lit (.int .i64 0), .lit (.int .i64 0), .lit (.string (ByteArray.mk #[]))])))]) Sub.tt ?_
  refine Chain.runK [] 4 fun K hK => ?_; simp; refine hK _ _ ?_; clear hK K
  refine Chain.nil ?_
  refine thenQ_normal ?_
  refine AW.goR [] 2 fun K hK => ?_; simp; refine hK _ ?_; clear hK K
  refine AW.sub (Sub.cut 22 0 rfl) ?_
  refine AW.sub (S' := mk 27 [] [(4, .ref 22 0 0)] [(22, some (.arr 27 3 []))]) (by simp; exact Sub.table (by simp) (by simp)) ?_
  refine AW.ret ?_
  exact FinO.ret (.ref 22 0 0) 22 (by simp) (by simp) (by simp) (by simp) rfl

/-- slices.Concat[[]stemma/serializability.Operation,stemma/serializability.Operation] -/
def d17 (N : Nat) (a0 : (List (List S27))) : Option (List S27) :=
 Option.bind (α := Int) (
  iterN (σ := (Int × Int)) (ρ := Int) (fun ((v6, v7) : (Int × Int)) =>
   if v7 < (a0.length : Int) then (
    (idx a0 v7).bind fun x24 =>
    (chkI (v6 + (x24.length : Int))).bind fun v26 =>
    if v26 < 0 then (
     none
    ) else
    (chkI (v7 + 1)).bind fun v28 =>
    some (.inl (v26, v28))
   ) else
   some (.inr v6)
  ) N (0, 0)
 ) fun (v22 : Int) =>
 (growL 32 v22).bind fun _ =>
 Option.bind (α := List S27) (
  iterN (σ := ((List S27) × Int)) (ρ := List S27) (fun ((l34, v35) : ((List S27) × Int)) =>
   if v35 < (a0.length : Int) then (
    (idx a0 v35).bind fun x50 =>
    (appL 32 l34 x50).bind fun _l52 =>
    (chkI (v35 + 1)).bind fun v53 =>
    some (.inl ((l34 ++ x50), v53))
   ) else
   some (.inr l34)
  ) N (([] : List S27), 0)
 ) fun (l48 : List S27) =>
 some l48
set_option maxRecDepth 100000 in
set_option maxHeartbeats 4000000 in
theorem p17 (N : Nat) (a0 : (List (List S27))) (r : (List S27)) (h : d17 N a0 = some r) : FunC Try.prog 17 [.d (.sl (a0.map (cL cS27)))] (.d (.sl (r.map cS27))) := by
 unfold d17 at h
 refine FunC.enter 36 [(0, .d (.sl (a0.map (cL cS27))))] (by simp) Try.func17 rfl (of_decide_eq_true rfl) rfl rfl ?_
 refine AW.seqR ?_
 refine Chain.runK [] 1 fun K hK => ?_; simp; refine hK _ _ ?_; clear hK K
 refine Chain.sub (S' := mk 36 [] [(0, .d (.sl (a0.map (cL cS27))))] []) Sub.tt ?_
 refine Chain.nil ?_
 refine AW.seqR ?_
 refine Chain.runK [] 1 fun K hK => ?_; simp; refine hK _ _ ?_; clear hK K
 refine Chain.sub (S' := mk 36 [] [(0, .d (.sl (a0.map (cL cS27)))), (3, .i 0)] []) Sub.tt ?_
 refine Chain.nil ?_
 refine AW.seq ?_
 refine AW.seqR ?_
 refine Chain.runK [] 3 fun K hK => ?_; simp; refine hK _ _ ?_; clear hK K
 refine Chain.sub (S' := mk 36 [] [(0, .d (.sl (a0.map (cL cS27)))), (3, .i 0), (9, .d (.sl (a0.map (cL cS27)))), (10, .i (a0.length : Int)), (11, .i 0)] []) Sub.tt ?_
 refine Chain.nil ?_
 refine AW.lastN (fun (v22 : Int) => mk 36 [] [(0, .d (.sl (a0.map (cL cS27)))), (3, .i v22)] []) h ?_ ?_ <;> clear h
 ·intro o h
  refine AW.block ?_
  refine AW.iter (fun ((v6, v7) : (Int × Int)) => mk 36 [] [(0, .d (.sl (a0.map (cL cS27)))), (3, .i v6), (9, .d (.sl (a0.map (cL cS27)))), (10, .i (a0.length : Int)), (11, .i v7)] []) h Sub.tt ?_
  clear h
  rintro ⟨v6, v7⟩ x h
  dsimp only at h ⊢
  refine AW.seqR ?_
  refine Chain.runK [] 1 fun K hK => ?_; simp; refine hK _ _ ?_; clear hK K
  refine Chain.sub (S' := mk 36 [] [(0, .d (.sl (a0.map (cL cS27)))), (3, .i v6), (9, .d (.sl (a0.map (cL cS27)))), (10, .i (a0.length : Int)), (11, .i v7), (12, .b (decide (v7 < (a0.length : Int))))] []) Sub.tt ?_
  refine Chain.nil ?_
  refine AW.seq ?_
  replace h := isome h; rcases h with ⟨c23, h⟩ | ⟨c23, h⟩
  ·have c23_ : decide (v7 < (a0.length : Int)) = true := decide_eq_true c23
   refine AW.condT (b := decide (v7 < (a0.length : Int))) rfl c23_ ?_
   refine AW.sub (Sub.bool 12 (b := decide (v7 < (a0.length : Int))) rfl c23_) ?_
   refine AW.sub (S' := mk 36 [] [(0, .d (.sl (a0.map (cL cS27)))), (3, .i v6), (9, .d (.sl (a0.map (cL cS27)))), (10, .i (a0.length : Int)), (11, .i v7), (12, .b true)] []) (by simp; exact Sub.table (by simp) (by simp)) ?_
   refine AW.skip ?_
   refine thenQ_normal ?_
   refine AW.seq ?_
   refine AW.block ?_
   refine AW.seqR ?_
   replace h := bsome h; obtain ⟨x24, hx24, h⟩ := h
   obtain ⟨k25, hx24k, hx24, hx24a, hx24b⟩ := idx_some hx24
   refine Chain.runK [] 3 fun K hK => ?_; simp [hx24, hx24k, hx24a]; refine hK _ _ ?_; clear hK K
   refine Chain.sub (S' := mk 36 [] [(0, .d (.sl (a0.map (cL cS27)))), (3, .i v6), (5, .d (.sl (x24.map cS27))), (9, .d (.sl (a0.map (cL cS27)))), (10, .i (a0.length : Int)), (11, .i v7)] []) Sub.tt ?_
   refine Chain.nil ?_
   refine AW.seqR ?_
   replace h := bsome h; obtain ⟨v26, hv26, h⟩ := h
   have hv26 := chkI_some hv26
   refine Chain.runK [] 5 fun K hK => ?_; simp [hv26]; refine hK _ _ ?_; clear hK K
   refine Chain.sub (S' := mk 36 [] [(0, .d (.sl (a0.map (cL cS27)))), (3, .i v26), (9, .d (.sl (a0.map (cL cS27)))), (10, .i (a0.length : Int)), (11, .i v7)] []) Sub.tt ?_
   refine Chain.nil ?_
   refine AW.seqR ?_
   refine Chain.runK [] 2 fun K hK => ?_; simp; refine hK _ _ ?_; clear hK K
   refine Chain.sub (S' := mk 36 [] [(0, .d (.sl (a0.map (cL cS27)))), (3, .i v26), (9, .d (.sl (a0.map (cL cS27)))), (10, .i (a0.length : Int)), (11, .i v7), (20, .b (decide (v26 < 0)))] []) Sub.tt ?_
   refine Chain.nil ?_
   replace h := isome h; rcases h with ⟨c27, h⟩ | ⟨c27, h⟩
   ·have c27_ : decide (v26 < 0) = true := decide_eq_true c27
    refine AW.condT (b := decide (v26 < 0)) rfl c27_ ?_
    refine AW.sub (Sub.bool 20 (b := decide (v26 < 0)) rfl c27_) ?_
    refine AW.sub (S' := mk 36 [] [(0, .d (.sl (a0.map (cL cS27)))), (3, .i v26), (9, .d (.sl (a0.map (cL cS27)))), (10, .i (a0.length : Int)), (11, .i v7), (20, .b true)] []) (by simp; exact Sub.table (by simp) (by simp)) ?_
    cases h
   ·have c27_ : decide (v26 < 0) = false := decide_eq_false c27
    refine AW.condF (b := decide (v26 < 0)) rfl c27_ ?_
    refine AW.sub (Sub.bool 20 (b := decide (v26 < 0)) rfl c27_) ?_
    refine AW.sub (S' := mk 36 [] [(0, .d (.sl (a0.map (cL cS27)))), (3, .i v26), (9, .d (.sl (a0.map (cL cS27)))), (10, .i (a0.length : Int)), (11, .i v7), (20, .b false)] []) (by simp; exact Sub.table (by simp) (by simp)) ?_
    refine AW.skip ?_
    refine blockQ.normal ?_
    refine thenQ_normal ?_
    refine AW.region ?_
    replace h := bsome h; obtain ⟨v28, hv28, h⟩ := h
    have hv28 := chkI_some hv28
    refine Chain.runK [] 2 fun K hK => ?_; simp [hv28]; refine hK _ _ ?_; clear hK K
    refine Chain.sub (S' := mk 36 [] [(0, .d (.sl (a0.map (cL cS27)))), (3, .i v26), (9, .d (.sl (a0.map (cL cS27)))), (10, .i (a0.length : Int)), (11, .i v28)] []) Sub.tt ?_
    refine Chain.nil ?_
    cases h
    refine PostI.next ?_
    exact Sub.tt
  ·have c23_ : decide (v7 < (a0.length : Int)) = false := decide_eq_false c23
   refine AW.condF (b := decide (v7 < (a0.length : Int))) rfl c23_ ?_
   refine AW.sub (Sub.bool 12 (b := decide (v7 < (a0.length : Int))) rfl c23_) ?_
   refine AW.sub (S' := mk 36 [] [(0, .d (.sl (a0.map (cL cS27)))), (3, .i v6), (9, .d (.sl (a0.map (cL cS27)))), (10, .i (a0.length : Int)), (11, .i v7), (12, .b false)] []) (by simp; exact Sub.table (by simp) (by simp)) ?_
   refine AW.exit ?_
   cases h
   refine thenQ_pass (by simp) ?_
   refine PostI.out (by simp) ?_
   rintro rfl
   refine blockQ.hit ?_
   refine PostN.next ?_
   exact Sub.tt
 ·rintro v22 h
  refine thenQ_normal ?_
  refine AW.seqR ?_
  refine Chain.runK [] 1 fun K hK => ?_; simp; refine hK _ _ ?_; clear hK K
  refine Chain.sub (S' := mk 36 [] [(0, .d (.sl (a0.map (cL cS27)))), (23, .i v22)] []) Sub.tt ?_
  replace h := bsome h; obtain ⟨g29, hg29, h⟩ := h
  refine Chain.callO (d := 24) (p39 N v22 hg29) (by simp) rfl rfl (by simp <;> rfl) (by simp <;> rfl) ent39 (by simp) ⟨by simp, by simp⟩ ?_
  refine Chain.sub (S' := mk 36 [] [(0, .d (.sl (a0.map (cL cS27)))), (23, .i v22), (24, .ref 24 0 (([] : List S27).length))] [(24, R27 ([] : List S27))]) (by simp; exact Sub.table (by simp) (by simp)) ?_
  refine Chain.runK [] 1 fun K hK => ?_; simp; refine hK _ _ ?_; clear hK K
  refine Chain.sub (S' := mk 36 [] [(0, .d (.sl (a0.map (cL cS27)))), (6, .ref 24 0 (([] : List S27).length))] [(24, R27 ([] : List S27))]) Sub.tt ?_
  refine Chain.nil ?_
  refine AW.seq ?_
  refine AW.seqR ?_
  refine Chain.runK [] 3 fun K hK => ?_; simp; refine hK _ _ ?_; clear hK K
  refine Chain.sub (S' := mk 36 [] [(6, .ref 24 0 (([] : List S27).length)), (25, .d (.sl (a0.map (cL cS27)))), (26, .i (a0.length : Int)), (27, .i 0)] [(24, R27 ([] : List S27))]) Sub.tt ?_
  refine Chain.nil ?_
  refine AW.lastN (fun (l48 : List S27) => mk 36 [] [(6, .ref 24 0 l48.length)] [(24, R27 l48)]) h ?_ ?_ <;> clear h
  ·intro o h
   refine AW.block ?_
   refine AW.iter (fun ((l34, v35) : ((List S27) × Int)) => mk 36 [] [(6, .ref 24 0 l34.length), (25, .d (.sl (a0.map (cL cS27)))), (26, .i (a0.length : Int)), (27, .i v35)] [(24, R27 l34)]) h Sub.tt ?_
   clear h
   rintro ⟨l34, v35⟩ x h
   dsimp only at h ⊢
   refine AW.seqR ?_
   refine Chain.runK [] 1 fun K hK => ?_; simp; refine hK _ _ ?_; clear hK K
   refine Chain.sub (S' := mk 36 [] [(6, .ref 24 0 l34.length), (25, .d (.sl (a0.map (cL cS27)))), (26, .i (a0.length : Int)), (27, .i v35), (28, .b (decide (v35 < (a0.length : Int))))] [(24, R27 l34)]) Sub.tt ?_
   refine Chain.nil ?_
   refine AW.seq ?_
   replace h := isome h; rcases h with ⟨c49, h⟩ | ⟨c49, h⟩
   ·have c49_ : decide (v35 < (a0.length : Int)) = true := decide_eq_true c49
    refine AW.condT (b := decide (v35 < (a0.length : Int))) rfl c49_ ?_
    refine AW.sub (Sub.bool 28 (b := decide (v35 < (a0.length : Int))) rfl c49_) ?_
    refine AW.sub (S' := mk 36 [] [(6, .ref 24 0 l34.length), (25, .d (.sl (a0.map (cL cS27)))), (26, .i (a0.length : Int)), (27, .i v35), (28, .b true)] [(24, R27 l34)]) (by simp; exact Sub.table (by simp) (by simp)) ?_
    refine AW.skip ?_
    refine thenQ_normal ?_
    refine AW.seq ?_
    refine AW.block ?_
    refine AW.seqR ?_
    replace h := bsome h; obtain ⟨x50, hx50, h⟩ := h
    obtain ⟨k51, hx50k, hx50, hx50a, hx50b⟩ := idx_some hx50
    refine Chain.runK [] 3 fun K hK => ?_; simp [hx50, hx50k, hx50a]; refine hK _ _ ?_; clear hK K
    refine Chain.sub (S' := mk 36 [] [(6, .ref 24 0 l34.length), (8, .d (.sl (x50.map cS27))), (25, .d (.sl (a0.map (cL cS27)))), (26, .i (a0.length : Int)), (27, .i v35)] [(24, R27 l34)]) Sub.tt ?_
    refine Chain.nil ?_
    refine AW.region ?_
    replace h := bsome h; obtain ⟨l52, hl52, h⟩ := h
    obtain ⟨hl52a, hl52⟩ := appL_some hl52
    subst hl52
    try simp only [List.length_append, List.length_cons, List.length_nil, Nat.zero_add, Nat.mul_one] at hl52a
    refine Chain.runK [] 4 fun K hK => ?_; simp [hl52a]; refine hK _ _ ?_; clear hK K
    refine Chain.sub (S' := mk 36 [] [(6, .ref 24 0 ((l34 ++ x50).length)), (25, .d (.sl (a0.map (cL cS27)))), (26, .i (a0.length : Int)), (27, .i v35)] [(24, R27 (l34 ++ x50))]) Sub.tt ?_
    refine Chain.nil ?_
    refine blockQ.normal ?_
    refine thenQ_normal ?_
    refine AW.region ?_
    replace h := bsome h; obtain ⟨v53, hv53, h⟩ := h
    have hv53 := chkI_some hv53
    refine Chain.runK [] 2 fun K hK => ?_; simp [hv53]; refine hK _ _ ?_; clear hK K
    refine Chain.sub (S' := mk 36 [] [(6, .ref 24 0 ((l34 ++ x50).length)), (25, .d (.sl (a0.map (cL cS27)))), (26, .i (a0.length : Int)), (27, .i v53)] [(24, R27 (l34 ++ x50))]) Sub.tt ?_
    refine Chain.nil ?_
    cases h
    refine PostI.next ?_
    exact Sub.tt
   ·have c49_ : decide (v35 < (a0.length : Int)) = false := decide_eq_false c49
    refine AW.condF (b := decide (v35 < (a0.length : Int))) rfl c49_ ?_
    refine AW.sub (Sub.bool 28 (b := decide (v35 < (a0.length : Int))) rfl c49_) ?_
    refine AW.sub (S' := mk 36 [] [(6, .ref 24 0 l34.length), (25, .d (.sl (a0.map (cL cS27)))), (26, .i (a0.length : Int)), (27, .i v35), (28, .b false)] [(24, R27 l34)]) (by simp; exact Sub.table (by simp) (by simp)) ?_
    refine AW.exit ?_
    cases h
    refine thenQ_pass (by simp) ?_
    refine PostI.out (by simp) ?_
    rintro rfl
    refine blockQ.hit ?_
    refine PostN.next ?_
    exact Sub.tt
  ·rintro l48 h
   refine thenQ_normal ?_
   refine AW.seqR ?_
   refine Chain.runK [] 2 fun K hK => ?_; simp; refine hK _ _ ?_; clear hK K
   refine Chain.sub (S' := mk 36 [] [(2, .ref 24 0 l48.length)] [(24, R27 l48)]) Sub.tt ?_
   refine Chain.nil ?_
   refine AW.sub (Sub.freeze 24 rfl) ?_
   refine AW.sub (S' := mk 36 [] [(2, .d (.sl (l48.map cS27)))] []) (by simp; exact Sub.table (by simp) (by simp)) ?_
   refine AW.ret ?_
   cases h
   exact FinC.ret (by simp) (by simp)

/-- stemma/serializability.Check -/
def d18 (N : Nat) (a0 : (List S27)) : Option Int :=
 if (a0.length : Int) > 200 then (
  some 2
 ) else
 bindO (β := Unit) (ρ := Int) (
  iterN (σ := Int) (ρ := (Out Unit Int)) (fun (v14 : Int) =>
   if v14 < (a0.length : Int) then (
    (idx a0 v14).bind fun x43 =>
    Option.bind (α := Bool) (
     if (x43.Kind != 1) then (
      some (x43.Kind != 2)
     ) else
     some false
    ) fun (v46 : Bool) =>
    if v46 = true then (
     some (.inr (.ret 3))
    ) else
    Option.bind (α := Bool) (
     if x43.Tx < 0 then (
      some true
     ) else
     some (decide (x43.Tx ≥ 20))
    ) fun (v50 : Bool) =>
    if v50 = true then (
     some (.inr (.ret 1))
    ) else
    if (x43.Key.size : Int) > 24 then (
     some (.inr (.ret 2))
    ) else
    (chkI (v14 + 1)).bind fun v54 =>
    some (.inl v54)
   ) else
   some (.inr (.go ()))
  ) N 0
 ) fun (_ : Unit) =>
 some 0
set_option maxRecDepth 100000 in
set_option maxHeartbeats 4000000 in
theorem p18 (N : Nat) (a0 : (List S27)) (r : Int) (h : d18 N a0 = some r) : FunC Try.prog 18 [.d (.sl (a0.map cS27))] (.i r) := by
 unfold d18 at h
 refine FunC.enter 35 [(0, .d (.sl (a0.map cS27)))] (by simp) Try.func18 rfl (of_decide_eq_true rfl) rfl rfl ?_
 refine AW.seqR ?_
 refine Chain.runK [] 1 fun K hK => ?_; simp; refine hK _ _ ?_; clear hK K
 refine Chain.sub (S' := mk 35 [] [(0, .d (.sl (a0.map cS27)))] []) Sub.tt ?_
 refine Chain.nil ?_
 refine AW.seq ?_
 refine AW.seqR ?_
 refine Chain.runK [] 3 fun K hK => ?_; simp; refine hK _ _ ?_; clear hK K
 refine Chain.sub (S' := mk 35 [] [(0, .d (.sl (a0.map cS27))), (7, .b (decide ((a0.length : Int) > 200)))] []) Sub.tt ?_
 refine Chain.nil ?_
 replace h := isome h; rcases h with ⟨c1, h⟩ | ⟨c1, h⟩
 ·have c1_ : decide ((a0.length : Int) > 200) = true := decide_eq_true c1
  refine AW.condT (b := decide ((a0.length : Int) > 200)) rfl c1_ ?_
  refine AW.sub (Sub.bool 7 (b := decide ((a0.length : Int) > 200)) rfl c1_) ?_
  refine AW.sub (S' := mk 35 [] [(0, .d (.sl (a0.map cS27))), (7, .b true)] []) (by simp; exact Sub.table (by simp) (by simp)) ?_
  refine AW.seqR ?_
  refine Chain.runK [] 1 fun K hK => ?_; simp; refine hK _ _ ?_; clear hK K
  refine Chain.sub (S' := mk 35 [] [(2, .i 2)] []) Sub.tt ?_
  refine Chain.nil ?_
  refine AW.ret ?_
  cases h
  refine thenQ_pass (by simp) ?_
  exact FinC.ret (by simp) (by simp)
 ·have c1_ : decide ((a0.length : Int) > 200) = false := decide_eq_false c1
  refine AW.condF (b := decide ((a0.length : Int) > 200)) rfl c1_ ?_
  refine AW.sub (Sub.bool 7 (b := decide ((a0.length : Int) > 200)) rfl c1_) ?_
  refine AW.sub (S' := mk 35 [] [(0, .d (.sl (a0.map cS27))), (7, .b false)] []) (by simp; exact Sub.table (by simp) (by simp)) ?_
  refine AW.skip ?_
  refine thenQ_normal ?_
  refine AW.seq ?_
  refine AW.seqR ?_
  refine Chain.runK [] 3 fun K hK => ?_; simp; refine hK _ _ ?_; clear hK K
  refine Chain.sub (S' := mk 35 [] [(8, .d (.sl (a0.map cS27))), (9, .i (a0.length : Int)), (10, .i 0)] []) Sub.tt ?_
  refine Chain.nil ?_
  refine AW.lastJ (fun (_ : Unit) => mk 35 [] [] []) h ?_ ?_ <;> clear h
  ·intro o h
   refine AW.block ?_
   refine AW.iter (fun (v14 : Int) => mk 35 [] [(8, .d (.sl (a0.map cS27))), (9, .i (a0.length : Int)), (10, .i v14)] []) h Sub.tt ?_
   clear h
   rintro v14 x h
   refine AW.seqR ?_
   refine Chain.runK [] 1 fun K hK => ?_; simp; refine hK _ _ ?_; clear hK K
   refine Chain.sub (S' := mk 35 [] [(8, .d (.sl (a0.map cS27))), (9, .i (a0.length : Int)), (10, .i v14), (11, .b (decide (v14 < (a0.length : Int))))] []) Sub.tt ?_
   refine Chain.nil ?_
   refine AW.seq ?_
   replace h := isome h; rcases h with ⟨c42, h⟩ | ⟨c42, h⟩
   ·have c42_ : decide (v14 < (a0.length : Int)) = true := decide_eq_true c42
    refine AW.condT (b := decide (v14 < (a0.length : Int))) rfl c42_ ?_
    refine AW.sub (Sub.bool 11 (b := decide (v14 < (a0.length : Int))) rfl c42_) ?_
    refine AW.sub (S' := mk 35 [] [(8, .d (.sl (a0.map cS27))), (9, .i (a0.length : Int)), (10, .i v14), (11, .b true)] []) (by simp; exact Sub.table (by simp) (by simp)) ?_
    refine AW.skip ?_
    refine thenQ_normal ?_
    refine AW.seq ?_
    refine AW.block ?_
    refine AW.seqR ?_
    replace h := bsome h; obtain ⟨x43, hx43, h⟩ := h
    obtain ⟨k44, hx43k, hx43, hx43a, hx43b⟩ := idx_some hx43
    refine Chain.runK [] 4 fun K hK => ?_; simp [hx43, hx43k, hx43a]; refine hK _ _ ?_; clear hK K
    refine Chain.sub (S' := mk 35 [] [(4, .ptr 4 0 0), (8, .d (.sl (a0.map cS27))), (9, .i (a0.length : Int)), (10, .i v14)] [(4, some (.box [.i x43.Tx, .i x43.Kind, .d (.lit (.string x43.Key))]))]) Sub.tt ?_
    refine Chain.nil ?_
    refine AW.seq ?_
    replace h := bsome h; obtain ⟨v46, hj, h⟩ := h
    refine AW.cutR (mk 35 [] [(4, .ptr 4 0 0), (8, .d (.sl (a0.map cS27))), (9, .i (a0.length : Int)), (10, .i v14), (21, .b v46)] [(4, some (.box [.i x43.Tx, .i x43.Kind, .d (.lit (.string x43.Key))]))]) ?_ ?_
    ·clear h; have h := hj; clear hj
     refine Chain.runK [] 4 fun K hK => ?_; simp; refine hK _ _ ?_; clear hK K
     refine Chain.sub (S' := mk 35 [] [(4, .ptr 4 0 0), (8, .d (.sl (a0.map cS27))), (9, .i (a0.length : Int)), (10, .i v14), (17, .b (x43.Kind != 1))] [(4, some (.box [.i x43.Tx, .i x43.Kind, .d (.lit (.string x43.Key))]))]) Sub.tt ?_
     replace h := isome h; rcases h with ⟨c47, h⟩ | ⟨c47, h⟩
     ·have c47_ : (x43.Kind != 1) = true := c47
      refine Chain.sub (Sub.bool 17 (b := (x43.Kind != 1)) rfl c47_) ?_
      refine Chain.sub (S' := mk 35 [] [(4, .ptr 4 0 0), (8, .d (.sl (a0.map cS27))), (9, .i (a0.length : Int)), (10, .i v14), (17, .b true)] [(4, some (.box [.i x43.Tx, .i x43.Kind, .d (.lit (.string x43.Key))]))]) (by simp; exact Sub.table (by simp) (by simp)) ?_
      refine Chain.runK [] 4 fun K hK => ?_; simp; refine hK _ _ ?_; clear hK K
      refine Chain.sub (S' := mk 35 [] [(4, .ptr 4 0 0), (8, .d (.sl (a0.map cS27))), (9, .i (a0.length : Int)), (10, .i v14), (18, .ptr 4 0 1), (19, .i x43.Kind), (20, .b (x43.Kind != 2)), (21, .b (x43.Kind != 2))] [(4, some (.box [.i x43.Tx, .i x43.Kind, .d (.lit (.string x43.Key))]))]) Sub.tt ?_
      cases h
      exact Chain.nil Sub.tt
     ·have c47_ : (x43.Kind != 1) = false := Bool.eq_false_iff.2 c47
      refine Chain.sub (Sub.bool 17 (b := (x43.Kind != 1)) rfl c47_) ?_
      refine Chain.sub (S' := mk 35 [] [(4, .ptr 4 0 0), (8, .d (.sl (a0.map cS27))), (9, .i (a0.length : Int)), (10, .i v14), (17, .b false)] [(4, some (.box [.i x43.Tx, .i x43.Kind, .d (.lit (.string x43.Key))]))]) (by simp; exact Sub.table (by simp) (by simp)) ?_
      refine Chain.runK [] 4 fun K hK => ?_; simp; refine hK _ _ ?_; clear hK K
      refine Chain.sub (S' := mk 35 [] [(4, .ptr 4 0 0), (8, .d (.sl (a0.map cS27))), (9, .i (a0.length : Int)), (10, .i v14), (18, .tup []), (19, .tup []), (20, .tup []), (21, .b false)] [(4, some (.box [.i x43.Tx, .i x43.Kind, .d (.lit (.string x43.Key))]))]) Sub.tt ?_
      cases h
      exact Chain.nil Sub.tt
    ·clear hj
     replace h := isome h; rcases h with ⟨c48, h⟩ | ⟨c48, h⟩
     ·have c48_ : v46 = true := c48
      refine AW.condT (b := v46) rfl c48_ ?_
      refine AW.sub (Sub.bool 21 (b := v46) rfl c48_) ?_
      refine AW.sub (S' := mk 35 [] [(4, .ptr 4 0 0), (8, .d (.sl (a0.map cS27))), (9, .i (a0.length : Int)), (10, .i v14), (21, .b true)] [(4, some (.box [.i x43.Tx, .i x43.Kind, .d (.lit (.string x43.Key))]))]) (by simp; exact Sub.table (by simp) (by simp)) ?_
      refine AW.seqR ?_
      refine Chain.runK [] 1 fun K hK => ?_; simp; refine hK _ _ ?_; clear hK K
      refine Chain.sub (S' := mk 35 [] [(2, .i 3)] []) Sub.tt ?_
      refine Chain.nil ?_
      refine AW.ret ?_
      cases h
      refine thenQ_pass (by simp) ?_
      refine blockQ.ret ?_
      refine thenQ_pass (by simp) ?_
      refine PostI.out (by simp) ?_
      rintro rfl
      refine blockQ.ret ?_
      refine PostJ.out (by simp) ?_
      rintro rfl
      refine thenQ_pass (by simp) ?_
      exact FinC.ret (by simp) (by simp)
     ·have c48_ : v46 = false := Bool.eq_false_iff.2 c48
      refine AW.condF (b := v46) rfl c48_ ?_
      refine AW.sub (Sub.bool 21 (b := v46) rfl c48_) ?_
      refine AW.sub (S' := mk 35 [] [(4, .ptr 4 0 0), (8, .d (.sl (a0.map cS27))), (9, .i (a0.length : Int)), (10, .i v14), (21, .b false)] [(4, some (.box [.i x43.Tx, .i x43.Kind, .d (.lit (.string x43.Key))]))]) (by simp; exact Sub.table (by simp) (by simp)) ?_
      refine AW.skip ?_
      refine thenQ_normal ?_
      refine AW.seq ?_
      replace h := bsome h; obtain ⟨v50, hj, h⟩ := h
      refine AW.cutR (mk 35 [] [(4, .ptr 4 0 0), (8, .d (.sl (a0.map cS27))), (9, .i (a0.length : Int)), (10, .i v14), (29, .b v50)] [(4, some (.box [.i x43.Tx, .i x43.Kind, .d (.lit (.string x43.Key))]))]) ?_ ?_
      ·clear h; have h := hj; clear hj
       refine Chain.runK [] 4 fun K hK => ?_; simp; refine hK _ _ ?_; clear hK K
       refine Chain.sub (S' := mk 35 [] [(4, .ptr 4 0 0), (8, .d (.sl (a0.map cS27))), (9, .i (a0.length : Int)), (10, .i v14), (25, .b (decide (x43.Tx < 0)))] [(4, some (.box [.i x43.Tx, .i x43.Kind, .d (.lit (.string x43.Key))]))]) Sub.tt ?_
       replace h := isome h; rcases h with ⟨c51, h⟩ | ⟨c51, h⟩
       ·have c51_ : decide (x43.Tx < 0) = true := decide_eq_true c51
        refine Chain.sub (Sub.bool 25 (b := decide (x43.Tx < 0)) rfl c51_) ?_
        refine Chain.sub (S' := mk 35 [] [(4, .ptr 4 0 0), (8, .d (.sl (a0.map cS27))), (9, .i (a0.length : Int)), (10, .i v14), (25, .b true)] [(4, some (.box [.i x43.Tx, .i x43.Kind, .d (.lit (.string x43.Key))]))]) (by simp; exact Sub.table (by simp) (by simp)) ?_
        refine Chain.runK [] 4 fun K hK => ?_; simp; refine hK _ _ ?_; clear hK K
        refine Chain.sub (S' := mk 35 [] [(4, .ptr 4 0 0), (8, .d (.sl (a0.map cS27))), (9, .i (a0.length : Int)), (10, .i v14), (26, .tup []), (27, .tup []), (28, .tup []), (29, .b true)] [(4, some (.box [.i x43.Tx, .i x43.Kind, .d (.lit (.string x43.Key))]))]) Sub.tt ?_
        cases h
        exact Chain.nil Sub.tt
       ·have c51_ : decide (x43.Tx < 0) = false := decide_eq_false c51
        refine Chain.sub (Sub.bool 25 (b := decide (x43.Tx < 0)) rfl c51_) ?_
        refine Chain.sub (S' := mk 35 [] [(4, .ptr 4 0 0), (8, .d (.sl (a0.map cS27))), (9, .i (a0.length : Int)), (10, .i v14), (25, .b false)] [(4, some (.box [.i x43.Tx, .i x43.Kind, .d (.lit (.string x43.Key))]))]) (by simp; exact Sub.table (by simp) (by simp)) ?_
        refine Chain.runK [] 4 fun K hK => ?_; simp; refine hK _ _ ?_; clear hK K
        refine Chain.sub (S' := mk 35 [] [(4, .ptr 4 0 0), (8, .d (.sl (a0.map cS27))), (9, .i (a0.length : Int)), (10, .i v14), (26, .ptr 4 0 0), (27, .i x43.Tx), (28, .b (decide (x43.Tx ≥ 20))), (29, .b (decide (x43.Tx ≥ 20)))] [(4, some (.box [.i x43.Tx, .i x43.Kind, .d (.lit (.string x43.Key))]))]) Sub.tt ?_
        cases h
        exact Chain.nil Sub.tt
      ·clear hj
       replace h := isome h; rcases h with ⟨c52, h⟩ | ⟨c52, h⟩
       ·have c52_ : v50 = true := c52
        refine AW.condT (b := v50) rfl c52_ ?_
        refine AW.sub (Sub.bool 29 (b := v50) rfl c52_) ?_
        refine AW.sub (S' := mk 35 [] [(4, .ptr 4 0 0), (8, .d (.sl (a0.map cS27))), (9, .i (a0.length : Int)), (10, .i v14), (29, .b true)] [(4, some (.box [.i x43.Tx, .i x43.Kind, .d (.lit (.string x43.Key))]))]) (by simp; exact Sub.table (by simp) (by simp)) ?_
        refine AW.seqR ?_
        refine Chain.runK [] 1 fun K hK => ?_; simp; refine hK _ _ ?_; clear hK K
        refine Chain.sub (S' := mk 35 [] [(2, .i 1)] []) Sub.tt ?_
        refine Chain.nil ?_
        refine AW.ret ?_
        cases h
        refine thenQ_pass (by simp) ?_
        refine blockQ.ret ?_
        refine thenQ_pass (by simp) ?_
        refine PostI.out (by simp) ?_
        rintro rfl
        refine blockQ.ret ?_
        refine PostJ.out (by simp) ?_
        rintro rfl
        refine thenQ_pass (by simp) ?_
        exact FinC.ret (by simp) (by simp)
       ·have c52_ : v50 = false := Bool.eq_false_iff.2 c52
        refine AW.condF (b := v50) rfl c52_ ?_
        refine AW.sub (Sub.bool 29 (b := v50) rfl c52_) ?_
        refine AW.sub (S' := mk 35 [] [(4, .ptr 4 0 0), (8, .d (.sl (a0.map cS27))), (9, .i (a0.length : Int)), (10, .i v14), (29, .b false)] [(4, some (.box [.i x43.Tx, .i x43.Kind, .d (.lit (.string x43.Key))]))]) (by simp; exact Sub.table (by simp) (by simp)) ?_
        refine AW.skip ?_
        refine thenQ_normal ?_
        refine AW.seqR ?_
        refine Chain.runK [] 4 fun K hK => ?_; simp; refine hK _ _ ?_; clear hK K
        refine Chain.sub (S' := mk 35 [] [(8, .d (.sl (a0.map cS27))), (9, .i (a0.length : Int)), (10, .i v14), (33, .b (decide ((x43.Key.size : Int) > 24)))] []) Sub.tt ?_
        refine Chain.nil ?_
        replace h := isome h; rcases h with ⟨c53, h⟩ | ⟨c53, h⟩
        ·have c53_ : decide ((x43.Key.size : Int) > 24) = true := decide_eq_true c53
         refine AW.condT (b := decide ((x43.Key.size : Int) > 24)) rfl c53_ ?_
         refine AW.sub (Sub.bool 33 (b := decide ((x43.Key.size : Int) > 24)) rfl c53_) ?_
         refine AW.sub (S' := mk 35 [] [(8, .d (.sl (a0.map cS27))), (9, .i (a0.length : Int)), (10, .i v14), (33, .b true)] []) (by simp; exact Sub.table (by simp) (by simp)) ?_
         refine AW.seqR ?_
         refine Chain.runK [] 1 fun K hK => ?_; simp; refine hK _ _ ?_; clear hK K
         refine Chain.sub (S' := mk 35 [] [(2, .i 2)] []) Sub.tt ?_
         refine Chain.nil ?_
         refine AW.ret ?_
         cases h
         refine blockQ.ret ?_
         refine thenQ_pass (by simp) ?_
         refine PostI.out (by simp) ?_
         rintro rfl
         refine blockQ.ret ?_
         refine PostJ.out (by simp) ?_
         rintro rfl
         refine thenQ_pass (by simp) ?_
         exact FinC.ret (by simp) (by simp)
        ·have c53_ : decide ((x43.Key.size : Int) > 24) = false := decide_eq_false c53
         refine AW.condF (b := decide ((x43.Key.size : Int) > 24)) rfl c53_ ?_
         refine AW.sub (Sub.bool 33 (b := decide ((x43.Key.size : Int) > 24)) rfl c53_) ?_
         refine AW.sub (S' := mk 35 [] [(8, .d (.sl (a0.map cS27))), (9, .i (a0.length : Int)), (10, .i v14), (33, .b false)] []) (by simp; exact Sub.table (by simp) (by simp)) ?_
         refine AW.skip ?_
         refine blockQ.normal ?_
         refine thenQ_normal ?_
         refine AW.region ?_
         replace h := bsome h; obtain ⟨v54, hv54, h⟩ := h
         have hv54 := chkI_some hv54
         refine Chain.runK [] 2 fun K hK => ?_; simp [hv54]; refine hK _ _ ?_; clear hK K
         refine Chain.sub (S' := mk 35 [] [(8, .d (.sl (a0.map cS27))), (9, .i (a0.length : Int)), (10, .i v54)] []) Sub.tt ?_
         refine Chain.nil ?_
         cases h
         refine PostI.next ?_
         exact Sub.tt
   ·have c42_ : decide (v14 < (a0.length : Int)) = false := decide_eq_false c42
    refine AW.condF (b := decide (v14 < (a0.length : Int))) rfl c42_ ?_
    refine AW.sub (Sub.bool 11 (b := decide (v14 < (a0.length : Int))) rfl c42_) ?_
    refine AW.sub (S' := mk 35 [] [(8, .d (.sl (a0.map cS27))), (9, .i (a0.length : Int)), (10, .i v14), (11, .b false)] []) (by simp; exact Sub.table (by simp) (by simp)) ?_
    refine AW.exit ?_
    cases h
    refine thenQ_pass (by simp) ?_
    refine PostI.out (by simp) ?_
    rintro rfl
    refine blockQ.hit ?_
    refine PostJ.next ?_
    exact Sub.tt
  ·rintro ⟨⟩ h
   refine thenQ_normal ?_
   refine AW.seqR ?_
   refine Chain.runK [] 1 fun K hK => ?_; simp; refine hK _ _ ?_; clear hK K
   refine Chain.sub (S' := mk 35 [] [(2, .i 0)] []) Sub.tt ?_
   refine Chain.nil ?_
   refine AW.ret ?_
   cases h
   exact FinC.ret (by simp) (by simp)

/-- stemma/interleaving.Check -/
def d10 (N : Nat) (a0 : (List (List S27))) : Option Int :=
 Option.bind (α := Bool) (
  if (a0.length : Int) > 4 then (
   some true
  ) else
  (d17 N a0).bind fun r5 =>
  some (decide ((r5.length : Int) > 12))
 ) fun (v3 : Bool) =>
 if v3 = true then (
  some 2
 ) else
 bindO (β := Unit) (ρ := Int) (
  iterN (σ := Int) (ρ := (Out Unit Int)) (fun (v33 : Int) =>
   if v33 < (a0.length : Int) then (
    (idx a0 v33).bind fun x90 =>
    (d18 N x90).bind fun r92 =>
    if (r92 != 0) then (
     some (.inr (.ret r92))
    ) else
    bindO (β := Unit) (ρ := (Int ⊕ (Out Unit Int))) (
     iterN (σ := Int) (ρ := (Out Unit (Int ⊕ (Out Unit Int)))) (fun (v98 : Int) =>
      if v98 < (x90.length : Int) then (
       (idx x90 v98).bind fun x111 =>
       if (x111.Tx != v33) then (
        some (.inr (.ret (.inr (.ret 3))))
       ) else
       (chkI (v98 + 1)).bind fun v114 =>
       some (.inl v114)
      ) else
      some (.inr (.go ()))
     ) N 0
    ) fun (_ : Unit) =>
    (chkI (v33 + 1)).bind fun v115 =>
    some (.inl v115)
   ) else
   some (.inr (.go ()))
  ) N 0
 ) fun (_ : Unit) =>
 some 0
set_option maxRecDepth 100000 in
set_option maxHeartbeats 4000000 in
theorem p10 (N : Nat) (a0 : (List (List S27))) (r : Int) (h : d10 N a0 = some r) : FunC Try.prog 10 [.d (.sl (a0.map (cL cS27)))] (.i r) := by
 unfold d10 at h
 refine FunC.enter 41 [(0, .d (.sl (a0.map (cL cS27))))] (by simp) Try.func10 rfl (of_decide_eq_true rfl) rfl rfl ?_
 refine AW.seqR ?_
 refine Chain.runK [] 1 fun K hK => ?_; simp; refine hK _ _ ?_; clear hK K
 refine Chain.sub (S' := mk 41 [] [(0, .d (.sl (a0.map (cL cS27))))] []) Sub.tt ?_
 refine Chain.nil ?_
 refine AW.seq ?_
 replace h := bsome h; obtain ⟨v3, hj, h⟩ := h
 refine AW.cutR (mk 41 [] [(0, .d (.sl (a0.map (cL cS27)))), (16, .b v3)] []) ?_ ?_
 ·clear h; have h := hj; clear hj
  refine Chain.runK [] 4 fun K hK => ?_; simp; refine hK _ _ ?_; clear hK K
  refine Chain.sub (S' := mk 41 [] [(0, .d (.sl (a0.map (cL cS27)))), (11, .b (decide ((a0.length : Int) > 4)))] []) Sub.tt ?_
  replace h := isome h; rcases h with ⟨c4, h⟩ | ⟨c4, h⟩
  ·have c4_ : decide ((a0.length : Int) > 4) = true := decide_eq_true c4
   refine Chain.sub (Sub.bool 11 (b := decide ((a0.length : Int) > 4)) rfl c4_) ?_
   refine Chain.sub (S' := mk 41 [] [(0, .d (.sl (a0.map (cL cS27)))), (11, .b true)] []) (by simp; exact Sub.table (by simp) (by simp)) ?_
   refine Chain.runK [] 5 fun K hK => ?_; simp; refine hK _ _ ?_; clear hK K
   refine Chain.sub (S' := mk 41 [] [(0, .d (.sl (a0.map (cL cS27)))), (16, .b true)] []) Sub.tt ?_
   cases h
   exact Chain.nil Sub.tt
  ·have c4_ : decide ((a0.length : Int) > 4) = false := decide_eq_false c4
   refine Chain.sub (Sub.bool 11 (b := decide ((a0.length : Int) > 4)) rfl c4_) ?_
   refine Chain.sub (S' := mk 41 [] [(0, .d (.sl (a0.map (cL cS27)))), (11, .b false)] []) (by simp; exact Sub.table (by simp) (by simp)) ?_
   refine Chain.runK [] 1 fun K hK => ?_; simp; refine hK _ _ ?_; clear hK K
   refine Chain.sub (S' := mk 41 [] [(0, .d (.sl (a0.map (cL cS27)))), (11, .b false), (12, .d (.sl (a0.map (cL cS27))))] []) Sub.tt ?_
   replace h := bsome h; obtain ⟨r5, hr5, h⟩ := h
   refine Chain.callC (d := 13) (p17 N a0 r5 hr5) (by simp) rfl rfl (by simp <;> rfl) (by simp <;> rfl) ent17 (by simp) (.inl ⟨by simp, by simp⟩) ?_
   refine Chain.sub (S' := mk 41 [] [(0, .d (.sl (a0.map (cL cS27)))), (11, .b false), (12, .d (.sl (a0.map (cL cS27)))), (13, .d (.sl (r5.map cS27)))] []) (by simp; exact Sub.table (by simp) (by simp)) ?_
   refine Chain.runK [] 3 fun K hK => ?_; simp; refine hK _ _ ?_; clear hK K
   refine Chain.sub (S' := mk 41 [] [(0, .d (.sl (a0.map (cL cS27)))), (16, .b (decide ((r5.length : Int) > 12)))] []) Sub.tt ?_
   cases h
   exact Chain.nil Sub.tt
 ·clear hj
  replace h := isome h; rcases h with ⟨c6, h⟩ | ⟨c6, h⟩
  ·have c6_ : v3 = true := c6
   refine AW.condT (b := v3) rfl c6_ ?_
   refine AW.sub (Sub.bool 16 (b := v3) rfl c6_) ?_
   refine AW.sub (S' := mk 41 [] [(0, .d (.sl (a0.map (cL cS27)))), (16, .b true)] []) (by simp; exact Sub.table (by simp) (by simp)) ?_
   refine AW.seqR ?_
   refine Chain.runK [] 1 fun K hK => ?_; simp; refine hK _ _ ?_; clear hK K
   refine Chain.sub (S' := mk 41 [] [(2, .i 2)] []) Sub.tt ?_
   refine Chain.nil ?_
   refine AW.ret ?_
   cases h
   refine thenQ_pass (by simp) ?_
   exact FinC.ret (by simp) (by simp)
  ·have c6_ : v3 = false := Bool.eq_false_iff.2 c6
   refine AW.condF (b := v3) rfl c6_ ?_
   refine AW.sub (Sub.bool 16 (b := v3) rfl c6_) ?_
   refine AW.sub (S' := mk 41 [] [(0, .d (.sl (a0.map (cL cS27)))), (16, .b false)] []) (by simp; exact Sub.table (by simp) (by simp)) ?_
   refine AW.skip ?_
   refine thenQ_normal ?_
   refine AW.seq ?_
   refine AW.seqR ?_
   refine Chain.runK [] 3 fun K hK => ?_; simp; refine hK _ _ ?_; clear hK K
   refine Chain.sub (S' := mk 41 [] [(17, .d (.sl (a0.map (cL cS27)))), (18, .i (a0.length : Int)), (19, .i 0)] []) Sub.tt ?_
   refine Chain.nil ?_
   refine AW.lastJ (fun (_ : Unit) => mk 41 [] [] []) h ?_ ?_ <;> clear h
   ·intro o h
    refine AW.block ?_
    refine AW.iter (fun (v33 : Int) => mk 41 [] [(17, .d (.sl (a0.map (cL cS27)))), (18, .i (a0.length : Int)), (19, .i v33)] []) h Sub.tt ?_
    clear h
    rintro v33 x h
    refine AW.seqR ?_
    refine Chain.runK [] 1 fun K hK => ?_; simp; refine hK _ _ ?_; clear hK K
    refine Chain.sub (S' := mk 41 [] [(17, .d (.sl (a0.map (cL cS27)))), (18, .i (a0.length : Int)), (19, .i v33), (20, .b (decide (v33 < (a0.length : Int))))] []) Sub.tt ?_
    refine Chain.nil ?_
    refine AW.seq ?_
    replace h := isome h; rcases h with ⟨c89, h⟩ | ⟨c89, h⟩
    ·have c89_ : decide (v33 < (a0.length : Int)) = true := decide_eq_true c89
     refine AW.condT (b := decide (v33 < (a0.length : Int))) rfl c89_ ?_
     refine AW.sub (Sub.bool 20 (b := decide (v33 < (a0.length : Int))) rfl c89_) ?_
     refine AW.sub (S' := mk 41 [] [(17, .d (.sl (a0.map (cL cS27)))), (18, .i (a0.length : Int)), (19, .i v33), (20, .b true)] []) (by simp; exact Sub.table (by simp) (by simp)) ?_
     refine AW.skip ?_
     refine thenQ_normal ?_
     refine AW.seq ?_
     refine AW.block ?_
     refine AW.seqR ?_
     replace h := bsome h; obtain ⟨x90, hx90, h⟩ := h
     obtain ⟨k91, hx90k, hx90, hx90a, hx90b⟩ := idx_some hx90
     refine Chain.runK [] 5 fun K hK => ?_; simp [hx90, hx90k, hx90a]; refine hK _ _ ?_; clear hK K
     refine Chain.sub (S' := mk 41 [] [(3, .i v33), (4, .d (.sl (x90.map cS27))), (17, .d (.sl (a0.map (cL cS27)))), (18, .i (a0.length : Int)), (19, .i v33)] []) Sub.tt ?_
     refine Chain.nil ?_
     refine AW.seq ?_
     refine AW.seqR ?_
     refine Chain.runK [] 1 fun K hK => ?_; simp; refine hK _ _ ?_; clear hK K
     refine Chain.sub (S' := mk 41 [] [(3, .i v33), (4, .d (.sl (x90.map cS27))), (17, .d (.sl (a0.map (cL cS27)))), (18, .i (a0.length : Int)), (19, .i v33), (24, .d (.sl (x90.map cS27)))] []) Sub.tt ?_
     replace h := bsome h; obtain ⟨r92, hr92, h⟩ := h
     refine Chain.callL (d := 25) (p18 N x90 r92 hr92) (by simp) rfl rfl (by simp <;> rfl) (by simp <;> rfl) ent18 (by simp <;> rfl) ?_
     refine Chain.sub (S' := mk 41 [] [(3, .i v33), (4, .d (.sl (x90.map cS27))), (17, .d (.sl (a0.map (cL cS27)))), (18, .i (a0.length : Int)), (19, .i v33), (24, .d (.sl (x90.map cS27))), (25, .i r92)] []) (by simp; exact Sub.table (by simp) (by simp)) ?_
     refine Chain.runK [] 1 fun K hK => ?_; simp; refine hK _ _ ?_; clear hK K
     refine Chain.sub (S' := mk 41 [] [(3, .i v33), (4, .d (.sl (x90.map cS27))), (5, .i r92), (17, .d (.sl (a0.map (cL cS27)))), (18, .i (a0.length : Int)), (19, .i v33)] []) Sub.tt ?_
     refine Chain.nil ?_
     refine AW.seqR ?_
     refine Chain.runK [] 2 fun K hK => ?_; simp; refine hK _ _ ?_; clear hK K
     refine Chain.sub (S' := mk 41 [] [(3, .i v33), (4, .d (.sl (x90.map cS27))), (5, .i r92), (17, .d (.sl (a0.map (cL cS27)))), (18, .i (a0.length : Int)), (19, .i v33), (27, .b (r92 != 0))] []) Sub.tt ?_
     refine Chain.nil ?_
     replace h := isome h; rcases h with ⟨c93, h⟩ | ⟨c93, h⟩
     ·have c93_ : (r92 != 0) = true := c93
      refine AW.condT (b := (r92 != 0)) rfl c93_ ?_
      refine AW.sub (Sub.bool 27 (b := (r92 != 0)) rfl c93_) ?_
      refine AW.sub (S' := mk 41 [] [(3, .i v33), (4, .d (.sl (x90.map cS27))), (5, .i r92), (17, .d (.sl (a0.map (cL cS27)))), (18, .i (a0.length : Int)), (19, .i v33), (27, .b true)] []) (by simp; exact Sub.table (by simp) (by simp)) ?_
      refine AW.seqR ?_
      refine Chain.runK [] 2 fun K hK => ?_; simp; refine hK _ _ ?_; clear hK K
      refine Chain.sub (S' := mk 41 [] [(2, .i r92)] []) Sub.tt ?_
      refine Chain.nil ?_
      refine AW.ret ?_
      cases h
      refine thenQ_pass (by simp) ?_
      refine blockQ.ret ?_
      refine thenQ_pass (by simp) ?_
      refine PostI.out (by simp) ?_
      rintro rfl
      refine blockQ.ret ?_
      refine PostJ.out (by simp) ?_
      rintro rfl
      refine thenQ_pass (by simp) ?_
      exact FinC.ret (by simp) (by simp)
     ·have c93_ : (r92 != 0) = false := Bool.eq_false_iff.2 c93
      refine AW.condF (b := (r92 != 0)) rfl c93_ ?_
      refine AW.sub (Sub.bool 27 (b := (r92 != 0)) rfl c93_) ?_
      refine AW.sub (S' := mk 41 [] [(3, .i v33), (4, .d (.sl (x90.map cS27))), (5, .i r92), (17, .d (.sl (a0.map (cL cS27)))), (18, .i (a0.length : Int)), (19, .i v33), (27, .b false)] []) (by simp; exact Sub.table (by simp) (by simp)) ?_
      refine AW.skip ?_
      refine thenQ_normal ?_
      refine AW.seqR ?_
      refine Chain.runK [] 3 fun K hK => ?_; simp; refine hK _ _ ?_; clear hK K
      refine Chain.sub (S' := mk 41 [] [(3, .i v33), (17, .d (.sl (a0.map (cL cS27)))), (18, .i (a0.length : Int)), (19, .i v33), (29, .d (.sl (x90.map cS27))), (30, .i (x90.length : Int)), (31, .i 0)] []) Sub.tt ?_
      refine Chain.nil ?_
      refine AW.lastJ (fun (_ : Unit) => mk 41 [] [(17, .d (.sl (a0.map (cL cS27)))), (18, .i (a0.length : Int)), (19, .i v33)] []) h ?_ ?_ <;> clear h
      ·intro o h
       refine AW.block ?_
       refine AW.iter (fun (v98 : Int) => mk 41 [] [(3, .i v33), (17, .d (.sl (a0.map (cL cS27)))), (18, .i (a0.length : Int)), (19, .i v33), (29, .d (.sl (x90.map cS27))), (30, .i (x90.length : Int)), (31, .i v98)] []) h Sub.tt ?_
       clear h
       rintro v98 x h
       refine AW.seqR ?_
       refine Chain.runK [] 1 fun K hK => ?_; simp; refine hK _ _ ?_; clear hK K
       refine Chain.sub (S' := mk 41 [] [(3, .i v33), (17, .d (.sl (a0.map (cL cS27)))), (18, .i (a0.length : Int)), (19, .i v33), (29, .d (.sl (x90.map cS27))), (30, .i (x90.length : Int)), (31, .i v98), (32, .b (decide (v98 < (x90.length : Int))))] []) Sub.tt ?_
       refine Chain.nil ?_
       refine AW.seq ?_
       replace h := isome h; rcases h with ⟨c110, h⟩ | ⟨c110, h⟩
       ·have c110_ : decide (v98 < (x90.length : Int)) = true := decide_eq_true c110
        refine AW.condT (b := decide (v98 < (x90.length : Int))) rfl c110_ ?_
        refine AW.sub (Sub.bool 32 (b := decide (v98 < (x90.length : Int))) rfl c110_) ?_
        refine AW.sub (S' := mk 41 [] [(3, .i v33), (17, .d (.sl (a0.map (cL cS27)))), (18, .i (a0.length : Int)), (19, .i v33), (29, .d (.sl (x90.map cS27))), (30, .i (x90.length : Int)), (31, .i v98), (32, .b true)] []) (by simp; exact Sub.table (by simp) (by simp)) ?_
        refine AW.skip ?_
        refine thenQ_normal ?_
        refine AW.seq ?_
        refine AW.block ?_
        refine AW.seqR ?_
        replace h := bsome h; obtain ⟨x111, hx111, h⟩ := h
        obtain ⟨k112, hx111k, hx111, hx111a, hx111b⟩ := idx_some hx111
        refine Chain.runK [] 4 fun K hK => ?_; simp [hx111, hx111k, hx111a]; refine hK _ _ ?_; clear hK K
        refine Chain.sub (S' := mk 41 [] [(3, .i v33), (7, .ptr 7 0 0), (17, .d (.sl (a0.map (cL cS27)))), (18, .i (a0.length : Int)), (19, .i v33), (29, .d (.sl (x90.map cS27))), (30, .i (x90.length : Int)), (31, .i v98)] [(7, some (.box [.i x111.Tx, .i x111.Kind, .d (.lit (.string x111.Key))]))]) Sub.tt ?_
        refine Chain.nil ?_
        refine AW.seqR ?_
        refine Chain.runK [] 4 fun K hK => ?_; simp; refine hK _ _ ?_; clear hK K
        refine Chain.sub (S' := mk 41 [] [(3, .i v33), (17, .d (.sl (a0.map (cL cS27)))), (18, .i (a0.length : Int)), (19, .i v33), (29, .d (.sl (x90.map cS27))), (30, .i (x90.length : Int)), (31, .i v98), (38, .b (x111.Tx != v33))] []) Sub.tt ?_
        refine Chain.nil ?_
        replace h := isome h; rcases h with ⟨c113, h⟩ | ⟨c113, h⟩
        ·have c113_ : (x111.Tx != v33) = true := c113
         refine AW.condT (b := (x111.Tx != v33)) rfl c113_ ?_
         refine AW.sub (Sub.bool 38 (b := (x111.Tx != v33)) rfl c113_) ?_
         refine AW.sub (S' := mk 41 [] [(3, .i v33), (17, .d (.sl (a0.map (cL cS27)))), (18, .i (a0.length : Int)), (19, .i v33), (29, .d (.sl (x90.map cS27))), (30, .i (x90.length : Int)), (31, .i v98), (38, .b true)] []) (by simp; exact Sub.table (by simp) (by simp)) ?_
         refine AW.seqR ?_
         refine Chain.runK [] 1 fun K hK => ?_; simp; refine hK _ _ ?_; clear hK K
         refine Chain.sub (S' := mk 41 [] [(2, .i 3)] []) Sub.tt ?_
         refine Chain.nil ?_
         refine AW.ret ?_
         cases h
         refine blockQ.ret ?_
         refine thenQ_pass (by simp) ?_
         refine PostI.out (by simp) ?_
         rintro rfl
         refine blockQ.ret ?_
         refine PostJ.out (by simp) ?_
         rintro rfl
         refine blockQ.ret ?_
         refine thenQ_pass (by simp) ?_
         refine PostI.out (by simp) ?_
         rintro rfl
         refine blockQ.ret ?_
         refine PostJ.out (by simp) ?_
         rintro rfl
         refine thenQ_pass (by simp) ?_
         exact FinC.ret (by simp) (by simp)
        ·have c113_ : (x111.Tx != v33) = false := Bool.eq_false_iff.2 c113
         refine AW.condF (b := (x111.Tx != v33)) rfl c113_ ?_
         refine AW.sub (Sub.bool 38 (b := (x111.Tx != v33)) rfl c113_) ?_
         refine AW.sub (S' := mk 41 [] [(3, .i v33), (17, .d (.sl (a0.map (cL cS27)))), (18, .i (a0.length : Int)), (19, .i v33), (29, .d (.sl (x90.map cS27))), (30, .i (x90.length : Int)), (31, .i v98), (38, .b false)] []) (by simp; exact Sub.table (by simp) (by simp)) ?_
         refine AW.skip ?_
         refine blockQ.normal ?_
         refine thenQ_normal ?_
         refine AW.region ?_
         replace h := bsome h; obtain ⟨v114, hv114, h⟩ := h
         have hv114 := chkI_some hv114
         refine Chain.runK [] 2 fun K hK => ?_; simp [hv114]; refine hK _ _ ?_; clear hK K
         refine Chain.sub (S' := mk 41 [] [(3, .i v33), (17, .d (.sl (a0.map (cL cS27)))), (18, .i (a0.length : Int)), (19, .i v33), (29, .d (.sl (x90.map cS27))), (30, .i (x90.length : Int)), (31, .i v114)] []) Sub.tt ?_
         refine Chain.nil ?_
         cases h
         refine PostI.next ?_
         exact Sub.tt
       ·have c110_ : decide (v98 < (x90.length : Int)) = false := decide_eq_false c110
        refine AW.condF (b := decide (v98 < (x90.length : Int))) rfl c110_ ?_
        refine AW.sub (Sub.bool 32 (b := decide (v98 < (x90.length : Int))) rfl c110_) ?_
        refine AW.sub (S' := mk 41 [] [(3, .i v33), (17, .d (.sl (a0.map (cL cS27)))), (18, .i (a0.length : Int)), (19, .i v33), (29, .d (.sl (x90.map cS27))), (30, .i (x90.length : Int)), (31, .i v98), (32, .b false)] []) (by simp; exact Sub.table (by simp) (by simp)) ?_
        refine AW.exit ?_
        cases h
        refine thenQ_pass (by simp) ?_
        refine PostI.out (by simp) ?_
        rintro rfl
        refine blockQ.hit ?_
        refine PostJ.next ?_
        exact Sub.tt
      ·rintro ⟨⟩ h
       refine blockQ.normal ?_
       refine thenQ_normal ?_
       refine AW.region ?_
       replace h := bsome h; obtain ⟨v115, hv115, h⟩ := h
       have hv115 := chkI_some hv115
       refine Chain.runK [] 2 fun K hK => ?_; simp [hv115]; refine hK _ _ ?_; clear hK K
       refine Chain.sub (S' := mk 41 [] [(17, .d (.sl (a0.map (cL cS27)))), (18, .i (a0.length : Int)), (19, .i v115)] []) Sub.tt ?_
       refine Chain.nil ?_
       cases h
       refine PostI.next ?_
       exact Sub.tt
    ·have c89_ : decide (v33 < (a0.length : Int)) = false := decide_eq_false c89
     refine AW.condF (b := decide (v33 < (a0.length : Int))) rfl c89_ ?_
     refine AW.sub (Sub.bool 20 (b := decide (v33 < (a0.length : Int))) rfl c89_) ?_
     refine AW.sub (S' := mk 41 [] [(17, .d (.sl (a0.map (cL cS27)))), (18, .i (a0.length : Int)), (19, .i v33), (20, .b false)] []) (by simp; exact Sub.table (by simp) (by simp)) ?_
     refine AW.exit ?_
     cases h
     refine thenQ_pass (by simp) ?_
     refine PostI.out (by simp) ?_
     rintro rfl
     refine blockQ.hit ?_
     refine PostJ.next ?_
     exact Sub.tt
   ·rintro ⟨⟩ h
    refine thenQ_normal ?_
    refine AW.seqR ?_
    refine Chain.runK [] 1 fun K hK => ?_; simp; refine hK _ _ ?_; clear hK K
    refine Chain.sub (S' := mk 41 [] [(2, .i 0)] []) Sub.tt ?_
    refine Chain.nil ?_
    refine AW.ret ?_
    cases h
    exact FinC.ret (by simp) (by simp)

/-- slices.Clone[[]bool,bool] -/
def d35 (_ : Nat) (a0 : (List Bool)) : Option (List Bool) := if a0.length * 1 ≤ Rp.reach then some a0 else none
theorem p35 (N : Nat) (a0 : (List Bool)) (r : (List Bool)) (h : d35 N a0 = some r) : FunO Try.prog 35 [.d (.sl (a0.map cB))] (.ref 0 0 r.length) (.arr 4 1 (r.map cB)) := by
 obtain ⟨hz, h⟩ := gsome h
 cases h
 simp only [Nat.mul_one] at hz
 refine FunO.enter 8 [(0, .d (.sl (a0.map cB)))] Try.func35 rfl (of_decide_eq_true rfl) rfl rfl ?_
 refine AW.goR [] 1 fun K hK => ?_; simp; refine hK _ ?_; clear hK K
 refine AW.seq ?_
 refine AW.seqR ?_
 refine Chain.runK [] 1 fun K hK => ?_; simp; refine hK _ _ ?_; clear hK K
 refine Chain.eqNilE (es := a0.map cB) (by simp) rfl ty51 rfl (by simp) (by simp) fun b hb => ?_
 refine Chain.nil ?_
 cases b with
 | true =>
  have he : a0 = [] := by
   cases a0 with
   | nil => rfl
   | cons x xs => exact absurd (hb (by simp)) (by simp)
  subst he
  refine AW.condK fun K1 K2 k1 k2 => ?_; simp; refine k1 ?_; clear k1 k2 K1 K2
  refine AW.goR [] 1 fun K hK => ?_; simp; refine hK _ ?_; clear hK K
  refine AW.sub (Sub.nilOwn (t := 2) (id := 902) (T := 4) (n := 1) rfl rfl (by decide)) ?_
  refine AW.sub (S' := mk 8 [] [(2, .ref 902 0 0)] [(902, some (.arr 4 1 []))]) (by simp; exact Sub.table (by simp) (by simp)) ?_
  refine AW.ret ?_
  exact thenQ_pass (by simp) (FinO.ret (.ref 902 0 0) 902 (by simp) (by simp) (by simp) (by simp) rfl)
 | false =>
  refine AW.condK fun K1 K2 k1 k2 => ?_; simp; refine k2 ?_; clear k1 k2 K1 K2
  refine AW.skip ?_
  refine thenQ_normal ?_
  refine AW.goR [] 4 fun K hK => ?_; simp [hz]; refine hK _ ?_; clear hK K
  refine AW.sub (S' := mk 8 [] [(2, .ref 5 0 a0.length)] [(5, R4 a0)]) Sub.tt ?_
  refine AW.ret ?_
  exact FinO.ret (.ref 5 0 a0.length) 5 (by simp) (by simp) (by simp) (by simp) rfl

/-- stemma/serializability.Conflict -/
def d40 (_N : Nat) (a0 : S27) (a1 : S27) : Option Bool :=
 Option.bind (α := Bool) (
  if (a0.Tx != a1.Tx) then (
   if decide (a0.Key = a1.Key) = true then (
    if (a0.Kind == 2) then (
     some true
    ) else
    some (a1.Kind == 2)
   ) else
   some false
  ) else
  some false
 ) fun (v4 : Bool) =>
 some v4
set_option maxRecDepth 100000 in
set_option maxHeartbeats 4000000 in
theorem p40 (N : Nat) (a0 : S27) (a1 : S27) (r : Bool) (h : d40 N a0 a1 = some r) : FunC Try.prog 40 [.agg [.i a0.Tx, .i a0.Kind, .d (.lit (.string a0.Key))], .agg [.i a1.Tx, .i a1.Kind, .d (.lit (.string a1.Key))]] (.b r) := by
 unfold d40 at h
 refine FunC.enter 27 [(0, .agg [.i a0.Tx, .i a0.Kind, .d (.lit (.string a0.Key))]), (1, .agg [.i a1.Tx, .i a1.Kind, .d (.lit (.string a1.Key))])] (by simp) Try.func40 rfl (of_decide_eq_true rfl) rfl rfl ?_
 refine AW.seqR ?_
 refine Chain.runK [] 3 fun K hK => ?_; simp; refine hK _ _ ?_; clear hK K
 refine Chain.sub (S' := mk 27 [] [(2, .ptr 2 0 0), (3, .ptr 3 0 0)] [(2, some (.box [.i a0.Tx, .i a0.Kind, .d (.lit (.string a0.Key))])), (3, some (.box [.i a1.Tx, .i a1.Kind, .d (.lit (.string a1.Key))]))]) Sub.tt ?_
 refine Chain.nil ?_
 replace h := bsome h; obtain ⟨v4, hj, h⟩ := h
 refine AW.cutR (mk 27 [] [(4, .b v4)] []) ?_ ?_
 ·clear h; have h := hj; clear hj
  refine Chain.runK [] 6 fun K hK => ?_; simp; refine hK _ _ ?_; clear hK K
  refine Chain.sub (S' := mk 27 [] [(2, .ptr 2 0 0), (3, .ptr 3 0 0), (10, .b (a0.Tx != a1.Tx))] [(2, some (.box [.i a0.Tx, .i a0.Kind, .d (.lit (.string a0.Key))])), (3, some (.box [.i a1.Tx, .i a1.Kind, .d (.lit (.string a1.Key))]))]) Sub.tt ?_
  replace h := isome h; rcases h with ⟨c5, h⟩ | ⟨c5, h⟩
  ·have c5_ : (a0.Tx != a1.Tx) = true := c5
   refine Chain.sub (Sub.bool 10 (b := (a0.Tx != a1.Tx)) rfl c5_) ?_
   refine Chain.sub (S' := mk 27 [] [(2, .ptr 2 0 0), (3, .ptr 3 0 0), (10, .b true)] [(2, some (.box [.i a0.Tx, .i a0.Kind, .d (.lit (.string a0.Key))])), (3, some (.box [.i a1.Tx, .i a1.Kind, .d (.lit (.string a1.Key))]))]) (by simp; exact Sub.table (by simp) (by simp)) ?_
   refine Chain.runK [] 7 fun K hK => ?_; simp; refine hK _ _ ?_; clear hK K
   refine Chain.sub (S' := mk 27 [] [(2, .ptr 2 0 0), (3, .ptr 3 0 0), (17, .b (decide (a0.Key = a1.Key)))] [(2, some (.box [.i a0.Tx, .i a0.Kind, .d (.lit (.string a0.Key))])), (3, some (.box [.i a1.Tx, .i a1.Kind, .d (.lit (.string a1.Key))]))]) Sub.tt ?_
   replace h := isome h; rcases h with ⟨c6, h⟩ | ⟨c6, h⟩
   ·have c6_ : decide (a0.Key = a1.Key) = true := c6
    refine Chain.sub (Sub.bool 17 (b := decide (a0.Key = a1.Key)) rfl c6_) ?_
    refine Chain.sub (S' := mk 27 [] [(2, .ptr 2 0 0), (3, .ptr 3 0 0), (17, .b true)] [(2, some (.box [.i a0.Tx, .i a0.Kind, .d (.lit (.string a0.Key))])), (3, some (.box [.i a1.Tx, .i a1.Kind, .d (.lit (.string a1.Key))]))]) (by simp; exact Sub.table (by simp) (by simp)) ?_
    refine Chain.runK [] 4 fun K hK => ?_; simp; refine hK _ _ ?_; clear hK K
    refine Chain.sub (S' := mk 27 [] [(3, .ptr 3 0 0), (17, .b true), (21, .b (a0.Kind == 2))] [(3, some (.box [.i a1.Tx, .i a1.Kind, .d (.lit (.string a1.Key))]))]) Sub.tt ?_
    replace h := isome h; rcases h with ⟨c7, h⟩ | ⟨c7, h⟩
    ·have c7_ : (a0.Kind == 2) = true := c7
     refine Chain.sub (Sub.bool 21 (b := (a0.Kind == 2)) rfl c7_) ?_
     refine Chain.sub (S' := mk 27 [] [(3, .ptr 3 0 0), (17, .b true), (21, .b true)] [(3, some (.box [.i a1.Tx, .i a1.Kind, .d (.lit (.string a1.Key))]))]) (by simp; exact Sub.table (by simp) (by simp)) ?_
     refine Chain.runK [] 6 fun K hK => ?_; simp; refine hK _ _ ?_; clear hK K
     refine Chain.sub (S' := mk 27 [] [(4, .b true)] []) Sub.tt ?_
     cases h
     exact Chain.nil Sub.tt
    ·have c7_ : (a0.Kind == 2) = false := Bool.eq_false_iff.2 c7
     refine Chain.sub (Sub.bool 21 (b := (a0.Kind == 2)) rfl c7_) ?_
     refine Chain.sub (S' := mk 27 [] [(3, .ptr 3 0 0), (17, .b true), (21, .b false)] [(3, some (.box [.i a1.Tx, .i a1.Kind, .d (.lit (.string a1.Key))]))]) (by simp; exact Sub.table (by simp) (by simp)) ?_
     refine Chain.runK [] 6 fun K hK => ?_; simp; refine hK _ _ ?_; clear hK K
     refine Chain.sub (S' := mk 27 [] [(4, .b (a1.Kind == 2))] []) Sub.tt ?_
     cases h
     exact Chain.nil Sub.tt
   ·have c6_ : decide (a0.Key = a1.Key) = false := Bool.eq_false_iff.2 c6
    refine Chain.sub (Sub.bool 17 (b := decide (a0.Key = a1.Key)) rfl c6_) ?_
    refine Chain.sub (S' := mk 27 [] [(2, .ptr 2 0 0), (3, .ptr 3 0 0), (17, .b false)] [(2, some (.box [.i a0.Tx, .i a0.Kind, .d (.lit (.string a0.Key))])), (3, some (.box [.i a1.Tx, .i a1.Kind, .d (.lit (.string a1.Key))]))]) (by simp; exact Sub.table (by simp) (by simp)) ?_
    refine Chain.runK [] 10 fun K hK => ?_; simp; refine hK _ _ ?_; clear hK K
    refine Chain.sub (S' := mk 27 [] [(4, .b false)] []) Sub.tt ?_
    cases h
    exact Chain.nil Sub.tt
  ·have c5_ : (a0.Tx != a1.Tx) = false := Bool.eq_false_iff.2 c5
   refine Chain.sub (Sub.bool 10 (b := (a0.Tx != a1.Tx)) rfl c5_) ?_
   refine Chain.sub (S' := mk 27 [] [(2, .ptr 2 0 0), (3, .ptr 3 0 0), (10, .b false)] [(2, some (.box [.i a0.Tx, .i a0.Kind, .d (.lit (.string a0.Key))])), (3, some (.box [.i a1.Tx, .i a1.Kind, .d (.lit (.string a1.Key))]))]) (by simp; exact Sub.table (by simp) (by simp)) ?_
   refine Chain.runK [] 17 fun K hK => ?_; simp; refine hK _ _ ?_; clear hK K
   refine Chain.sub (S' := mk 27 [] [(4, .b false)] []) Sub.tt ?_
   cases h
   exact Chain.nil Sub.tt
 ·clear hj
  refine AW.ret ?_
  cases h
  exact FinC.ret (by simp) (by simp)

end Go.Proofs.Ytifcmomjjkbboaa
