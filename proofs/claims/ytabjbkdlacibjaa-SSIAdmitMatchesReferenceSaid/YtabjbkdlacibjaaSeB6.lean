/- the reference's Admit. -/
import Derived.Test.YtabjbkdlacibjaaSeB5
namespace Go.Proofs.Ytabjbkdlacibjaa
open Go.Ab Go.Rp
open Go.Ab.Enc (eC eV)
attribute [-simp] List.all_eq_true Array.all_toList Array.all_eq_true

def eN (j : Nat) : List D := [.lit (.int .i64 j)]
@[simp] theorem eN_def (j : Nat) : eN j = [.lit (.int .i64 (j : Int))] := rfl
theorem any_take_succ {α : Type} {p : α → Bool} {xs : List α} {k : Nat} {x : α} (hx : xs[k]? = some x) : (xs.take (k + 1)).any p = ((xs.take k).any p || p x) := by
  rw [take_snoc hx, List.any_append]; simp
theorem memb_succ (A : List Bool) (i k : Nat) : memb A i (k + 1) = memb A i k ++ (if A.getD k false = true then [k] else []) := by
  unfold memb
  rw [List.range_succ, List.filter_append, List.cons_append]
  congr 2
  cases h : A.getD k false <;> simp only [List.filter_cons, List.filter_nil, h] <;> rfl
theorem memb_len (A : List Bool) (i k : Nat) : (memb A i k).length ≤ k + 1 := by
  have := List.length_filter_le (fun j => A.getD j false) (List.range k)
  simp [memb] at this ⊢
  exact this
theorem wcR_succ (txs : List Tx) (A : List Bool) (i k : Nat) : wcR txs A i (k + 1) = (wcR txs A i k || (A.getD k false && wcR1 txs i k)) := by
  unfold wcR
  rw [List.range_succ, List.any_append]; simp

def pre (v x : Bool) : Bool := v && !x
@[simp] theorem pre_false (v : Bool) : pre v false = v := by cases v <;> rfl
theorem pre_or (v x y : Bool) : pre v (x || y) = (pre v x && !y) := by cases v <;> cases x <;> rfl

set_option maxRecDepth 100000 in
set_option maxHeartbeats 4000000 in
theorem f42 (txs : List Tx) (hsm : txs.length ≤ 40) : Fun Try.prog 42 [eV txs] (fun r k => ∃ id, r = .ref id 0 txs.length ∧ k = some (.arr 4 1 ((refAdm txs txs.length).map eC))) := by
  refine Fun.fin Try.func42 rfl (of_decide_eq_true rfl) ?_
  refine AW.goR [] 1 fun K hK => ?_; simp; refine hK _ ?_; clear hK K
  refine AW.goR [] 1 fun K hK => ?_; simp; refine hK _ ?_; clear hK K
  refine AW.seq ?_
  refine AW.goR [] 3 fun K hK => ?_; simp; refine hK _ ?_; clear hK K
  refine AW.block ?_
  refine AW.forN txs.length (fun i => mk 118 [] [(0, eV txs), (3, .ref 115 0 i), (15, eV txs), (16, .d (.lit (.int .i64 txs.length))), (17, .d (.lit (.int .i64 i)))] [(115, some (.arr 4 1 ((refAdm txs i).map eC)))]) ((Sub.nilOwn (t := 3) (id := 115) (T := 4) (n := 1) rfl rfl (by decide)).trans (by simp; exact Sub.table (by simp) (by simp [refAdm]))) fun i hi => ?_
  by_cases hlt : i < txs.length
  · have hA := refAdm_length txs i
    have hsucc : refAdm txs (i + 1) = refAdm txs i ++ [okR txs (refAdm txs i) i] := rfl
    generalize refAdm txs i = A at hA hsucc ⊢
    obtain ⟨xi, hxi⟩ := getAt hlt
    have hw : IntKind.i64.wrap ((i : Int) + 1) = (i : Int) + 1 := wrap_i64 (by omega) (by omega)
    refine AW.goR [] 1 fun K hK => ?_; simp; refine hK _ ?_; clear hK K
    refine AW.seq (AW.condK fun K1 K2 k1 k2 => ?_); simp [hlt]; refine k1 ?_; clear k1 k2 K1 K2
    refine AW.skip ?_
    refine AW.seq (AW.block ?_)
    refine AW.goR [] 6 fun K hK => ?_; simp [hxi]; refine hK _ ?_; clear hK K
    refine AW.goR [] 1 fun K hK => ?_; simp; refine hK _ ?_; clear hK K
    refine AW.goR [] 3 fun K hK => ?_; simp; refine hK _ ?_; clear hK K
    refine AW.seq ?_
    refine AW.goR [] 2 fun K hK => ?_; simp; refine hK _ ?_; clear hK K
    refine AW.block ?_
    refine AW.forN i (fun k => mk 118 [] [(0, eV txs), (3, .ref 115 0 i), (5, .ptr 5 0 0), (6, .d (.lit (.bool (!wcR txs A i k)))), (7, .ref 23 0 (memb A i k).length), (15, eV txs), (16, .d (.lit (.int .i64 txs.length))), (17, .d (.lit (.int .i64 i))), (24, .d (.lit (.int .i64 i))), (25, .d (.lit (.int .i64 k)))] [(115, some (.arr 4 1 (A.map eC))), (5, some (.box [.d (.lit (.int .i64 xi.start)), .d (.lit (.int .i64 xi.commit)), .d (.sl (xi.reads.map eC)), .d (.sl (xi.writes.map eC))])), (23, some (.arr 3 1 ((memb A i k).map eN)))]) (Sub.table (by simp [wcR, memb]) (by simp [memb])) fun k hk => ?_
    · by_cases hlk : k < i
      · as_aux_lemma =>
        obtain ⟨x, hx⟩ := getAt (show k < txs.length by omega)
        obtain ⟨q, hq⟩ := getAt (show k < A.length by omega)
        have hwk : IntKind.i64.wrap ((k : Int) + 1) = (k : Int) + 1 := wrap_i64 (by omega) (by omega)
        have hm1 := memb_succ A i k
        have hw1 := wcR_succ txs A i k
        rw [getD_of hq] at hm1 hw1
        have hml := memb_len A i k
        generalize memb A i k = ms at hm1 hml ⊢
        have hr : (ms.length + 1) * 8 ≤ reach := Nat.le_trans (Nat.mul_le_mul_right _ (show ms.length + 1 ≤ 100 by omega)) (by decide)
        have hwr1 : wcR1 txs i k = (concB xi x && meets xi.writes x.writes) := by unfold wcR1; rw [getD_of hxi, getD_of hx]
        refine AW.goR [] 1 fun K hK => ?_; simp; refine hK _ ?_; clear hK K
        refine AW.seq (AW.condK fun K1 K2 k1 k2 => ?_); simp [hlk]; refine k1 ?_; clear k1 k2 K1 K2
        refine AW.skip ?_
        refine AW.seq (AW.block ?_)
        refine AW.goR [] 2 fun K hK => ?_; simp; refine hK _ ?_; clear hK K
        refine AW.goR [] 4 fun K hK => ?_; simp [hq, if_pos hlk]; refine hK _ ?_; clear hK K
        cases q with
        | false =>
          refine AW.condK fun K1 K2 k1 k2 => ?_; simp; refine k2 ?_; clear k1 k2 K1 K2
          refine AW.skip ?_
          refine AW.goE [] 2 fun K hK => ?_; simp [hwk]; refine hK _ ?_; clear hK K
          exact ⟨hlk, Sub.table (by simp [hm1, hw1]) (by simp [hm1])⟩
        | true =>
          refine AW.condK fun K1 K2 k1 k2 => ?_; simp; refine k1 ?_; clear k1 k2 K1 K2
          refine AW.goR [34] 5 fun K hK => ?_; simp [hr]; refine hK _ ?_; clear hK K
          refine AW.endQ (by kernel_rfl) (by kernel_rfl) (mk 118 [] [(0, eV txs), (3, .ref 115 0 i), (5, .ptr 5 0 0), (6, .d (.lit (.bool (!wcR txs A i (k + 1))))), (7, .ref 23 0 (memb A i (k + 1)).length), (15, eV txs), (16, .d (.lit (.int .i64 txs.length))), (17, .d (.lit (.int .i64 i))), (24, .d (.lit (.int .i64 i))), (25, .d (.lit (.int .i64 k)))] [(115, some (.arr 4 1 (A.map eC))), (5, some (.box [.d (.lit (.int .i64 xi.start)), .d (.lit (.int .i64 xi.commit)), .d (.sl (xi.reads.map eC)), .d (.sl (xi.writes.map eC))])), (23, some (.arr 3 1 ((memb A i (k + 1)).map eN)))]) ?_ ?_
          · as_aux_lemma =>
            rw [hw1, hm1, hwr1]
            cases wcR txs A i k with
            | true => refine Chain.runQ 21 fun K hK => ?_; simp; exact hK _ _ (Chain.nil (Sub.table (by simp) (by simp)))
            | false =>
              refine Chain.runQ 7 fun K hK => ?_; simp [hx]; refine hK _ _ ?_; clear hK K
              refine Chain.callX (d := 43) (by simp) rfl rfl (by simp <;> rfl) (by simp <;> rfl) ent68 (f68 xi x) (by simp <;> rfl) ?_
              cases hc : concB xi x with
              | false => refine Chain.runQ 13 fun K hK => ?_; simp; exact hK _ _ (Chain.nil (Sub.table (by simp) (by simp)))
              | true =>
                refine Chain.runQ 8 fun K hK => ?_; simp [hx]; refine hK _ _ ?_; clear hK K
                refine Chain.callX (d := 52) (by simp) rfl rfl (by simp <;> rfl) (by simp <;> rfl) ent69 (f69 xi.writes x.writes) (by simp <;> rfl) ?_
                refine Chain.runQ 4 fun K hK => ?_; simp; exact hK _ _ (Chain.nil (Sub.table (by simp) (by simp)))
          · intro S' hS
            refine AW.sub hS ?_
            refine AW.goE [] 2 fun K hK => ?_; simp [hwk]; refine hK _ ?_; clear hK K
            exact ⟨hlk, Sub.table (by simp) (by simp)⟩
      · have hki : k = i := by omega
        subst hki
        as_aux_lemma =>
        refine AW.goR [] 1 fun K hK => ?_; simp; refine hK _ ?_; clear hK K
        refine AW.seq (AW.condK fun K1 K2 k1 k2 => ?_); simp; refine k2 ?_; clear k1 k2 K1 K2
        refine AW.exit ?_; simp only [thenQ, blockQ, if_true]
        have hml := memb_len A k k
        have hmem : ∀ j, j ∈ memb A k k → j < txs.length := fun j hj => by
          rcases mem_memb.1 hj with h | h <;> omega
        have hok : okR txs A k = (!wcR txs A k k && !triIn txs (memb A k k)) := rfl
        rw [hok] at hsucc
        generalize memb A k k = ms at hml hmem hsucc ⊢
        generalize (!wcR txs A k k) = v0 at hsucc ⊢
        refine AW.seq ?_
        refine AW.goR [] 3 fun K hK => ?_; simp; refine hK _ ?_; clear hK K
        refine AW.block ?_
        refine AW.forN ms.length (fun a => mk 118 [] [(0, eV txs), (3, .ref 115 0 k), (7, .ref 23 0 ms.length), (15, eV txs), (16, .d (.lit (.int .i64 txs.length))), (17, .d (.lit (.int .i64 k))), (57, .ref 23 0 ms.length), (58, .d (.lit (.int .i64 ms.length))), (59, .d (.lit (.int .i64 a))), (6, .d (.lit (.bool (pre v0 ((ms.take a).any (triPiv txs ms))))))] [(115, some (.arr 4 1 (A.map eC))), (23, some (.arr 3 1 (ms.map eN)))]) (Sub.table (by simp) (by simp)) fun a ha => ?_
        by_cases hla : a < ms.length
        · as_aux_lemma =>
          refine AW.goR [] 1 fun K hK => ?_; simp; refine hK _ ?_; clear hK K
          refine AW.seq (AW.condK fun K1 K2 k1 k2 => ?_); simp [hla]; refine k1 ?_; clear k1 k2 K1 K2
          refine AW.skip ?_
          refine AW.seq (AW.block ?_)
          obtain ⟨av, hav⟩ := getAt hla
          have hwa : IntKind.i64.wrap ((a : Int) + 1) = (a : Int) + 1 := wrap_i64 (by omega) (by omega)
          have hat : av < txs.length := hmem _ (List.mem_of_getElem? hav)
          refine AW.goR [] 3 fun K hK => ?_; simp [hav, if_pos hla]; refine hK _ ?_; clear hK K
          obtain ⟨v1, hv1⟩ : ∃ v1, v1 = pre v0 ((ms.take a).any (triPiv txs ms)) := ⟨_, rfl⟩
          refine AW.goR [] 3 fun K hK => ?_; simp; refine hK _ ?_; clear hK K
          refine AW.block ?_
          refine AW.forN ms.length (fun p => mk 118 [] [(0, eV txs), (3, .ref 115 0 k), (7, .ref 23 0 ms.length), (15, eV txs), (16, .d (.lit (.int .i64 txs.length))), (17, .d (.lit (.int .i64 k))), (57, .ref 23 0 ms.length), (58, .d (.lit (.int .i64 ms.length))), (59, .d (.lit (.int .i64 a))), (10, .d (.lit (.int .i64 av))), (63, .ref 23 0 ms.length), (64, .d (.lit (.int .i64 ms.length))), (65, .d (.lit (.int .i64 p))), (6, .d (.lit (.bool (pre v1 ((ms.take p).any (triOut txs ms av))))))] [(115, some (.arr 4 1 (A.map eC))), (23, some (.arr 3 1 (ms.map eN)))]) (Sub.table (by simp [hv1]) (by simp)) fun p hp => ?_
          by_cases hlp : p < ms.length
          · as_aux_lemma =>
            refine AW.goR [] 1 fun K hK => ?_; simp; refine hK _ ?_; clear hK K
            refine AW.seq (AW.condK fun K1 K2 k1 k2 => ?_); simp [hlp]; refine k1 ?_; clear k1 k2 K1 K2
            refine AW.skip ?_
            refine AW.seq (AW.block ?_)
            obtain ⟨pv, hpv⟩ := getAt hlp
            have hwp : IntKind.i64.wrap ((p : Int) + 1) = (p : Int) + 1 := wrap_i64 (by omega) (by omega)
            have hpt : pv < txs.length := hmem _ (List.mem_of_getElem? hpv)
            refine AW.goR [] 3 fun K hK => ?_; simp [hpv, if_pos hlp]; refine hK _ ?_; clear hK K
            obtain ⟨v2, hv2⟩ : ∃ v2, v2 = pre v1 ((ms.take p).any (triOut txs ms av)) := ⟨_, rfl⟩
            refine AW.goR [] 3 fun K hK => ?_; simp; refine hK _ ?_; clear hK K
            refine AW.block ?_
            refine AW.forN ms.length (fun o => mk 118 [] [(0, eV txs), (3, .ref 115 0 k), (7, .ref 23 0 ms.length), (15, eV txs), (16, .d (.lit (.int .i64 txs.length))), (17, .d (.lit (.int .i64 k))), (57, .ref 23 0 ms.length), (58, .d (.lit (.int .i64 ms.length))), (59, .d (.lit (.int .i64 a))), (10, .d (.lit (.int .i64 av))), (63, .ref 23 0 ms.length), (64, .d (.lit (.int .i64 ms.length))), (65, .d (.lit (.int .i64 p))), (12, .d (.lit (.int .i64 pv))), (69, .ref 23 0 ms.length), (70, .d (.lit (.int .i64 ms.length))), (71, .d (.lit (.int .i64 o))), (6, .d (.lit (.bool (pre v2 ((ms.take o).any (tri txs av pv))))))] [(115, some (.arr 4 1 (A.map eC))), (23, some (.arr 3 1 (ms.map eN)))]) (Sub.table (by simp [hv2]) (by simp)) fun o ho => ?_
            by_cases hlo : o < ms.length
            · as_aux_lemma =>
              refine AW.goR [] 1 fun K hK => ?_; simp; refine hK _ ?_; clear hK K
              refine AW.seq (AW.condK fun K1 K2 k1 k2 => ?_); simp [hlo]; refine k1 ?_; clear k1 k2 K1 K2
              refine AW.skip ?_
              refine AW.seq (AW.block ?_)
              obtain ⟨ov, hov⟩ := getAt hlo
              have hwo : IntKind.i64.wrap ((o : Int) + 1) = (o : Int) + 1 := wrap_i64 (by omega) (by omega)
              have hot : ov < txs.length := hmem _ (List.mem_of_getElem? hov)
              refine AW.goR [] 3 fun K hK => ?_; simp [hov, if_pos hlo]; refine hK _ ?_; clear hK K
              refine AW.endQ (by kernel_rfl) (by kernel_rfl) (mk 118 [] [(0, eV txs), (3, .ref 115 0 k), (7, .ref 23 0 ms.length), (15, eV txs), (16, .d (.lit (.int .i64 txs.length))), (17, .d (.lit (.int .i64 k))), (57, .ref 23 0 ms.length), (58, .d (.lit (.int .i64 ms.length))), (59, .d (.lit (.int .i64 a))), (10, .d (.lit (.int .i64 av))), (63, .ref 23 0 ms.length), (64, .d (.lit (.int .i64 ms.length))), (65, .d (.lit (.int .i64 p))), (12, .d (.lit (.int .i64 pv))), (69, .ref 23 0 ms.length), (70, .d (.lit (.int .i64 ms.length))), (71, .d (.lit (.int .i64 o))), (6, .d (.lit (.bool (pre v2 ((ms.take (o + 1)).any (tri txs av pv))))))] [(115, some (.arr 4 1 (A.map eC))), (23, some (.arr 3 1 (ms.map eN)))]) ?_ ?_
              · as_aux_lemma =>
                rw [any_take_succ hov, pre_or]
                obtain ⟨xa, hxa⟩ := getAt hat
                obtain ⟨xp, hxp⟩ := getAt hpt
                obtain ⟨xo, hxo⟩ := getAt hot
                have htri : tri txs av pv ov = (!(av == pv) && (!(pv == ov) && (antiB xa xp && antiB xp xo))) := by unfold tri; rw [getD_of hxa, getD_of hxp, getD_of hxo]
                rw [htri]
                generalize pre v2 ((ms.take o).any (tri txs av pv)) = u
                cases u with
                | false =>
                  as_aux_lemma =>
                  refine Chain.runQ 11 fun K hK => ?_; simp; refine hK _ _ ?_; clear hK K
                  refine Chain.sub (S' := mk 118 [] [(0, eV txs), (3, .ref 115 0 k), (7, .ref 23 0 ms.length), (15, eV txs), (16, .d (.lit (.int .i64 txs.length))), (17, .d (.lit (.int .i64 k))), (57, .ref 23 0 ms.length), (58, .d (.lit (.int .i64 ms.length))), (59, .d (.lit (.int .i64 a))), (10, .d (.lit (.int .i64 av))), (63, .ref 23 0 ms.length), (64, .d (.lit (.int .i64 ms.length))), (65, .d (.lit (.int .i64 p))), (12, .d (.lit (.int .i64 pv))), (69, .ref 23 0 ms.length), (70, .d (.lit (.int .i64 ms.length))), (71, .d (.lit (.int .i64 o))), (14, .d (.lit (.int .i64 ov))), (76, .d (.lit (.bool false))), (85, .tup [])] [(115, some (.arr 4 1 (A.map eC))), (23, some (.arr 3 1 (ms.map eN)))]) (Sub.table (by simp) (by simp)) ?_
                  refine Chain.runQ 11 fun K hK => ?_; simp; refine hK _ _ ?_; clear hK K
                  refine Chain.sub (S' := mk 118 [] [(0, eV txs), (3, .ref 115 0 k), (7, .ref 23 0 ms.length), (15, eV txs), (16, .d (.lit (.int .i64 txs.length))), (17, .d (.lit (.int .i64 k))), (57, .ref 23 0 ms.length), (58, .d (.lit (.int .i64 ms.length))), (59, .d (.lit (.int .i64 a))), (10, .d (.lit (.int .i64 av))), (63, .ref 23 0 ms.length), (64, .d (.lit (.int .i64 ms.length))), (65, .d (.lit (.int .i64 p))), (12, .d (.lit (.int .i64 pv))), (69, .ref 23 0 ms.length), (70, .d (.lit (.int .i64 ms.length))), (71, .d (.lit (.int .i64 o))), (14, .d (.lit (.int .i64 ov))), (76, .d (.lit (.bool false))), (96, .tup [])] [(115, some (.arr 4 1 (A.map eC))), (23, some (.arr 3 1 (ms.map eN)))]) (Sub.table (by simp) (by simp)) ?_
                  refine Chain.runQ 13 fun K hK => ?_; simp; exact hK _ _ (Chain.nil (Sub.table (by simp) (by simp)))
                | true =>
                  have e11 : ((av : Int) != (pv : Int)) = !(av == pv) := by rw [Bool.eq_iff_iff, Bool.not_eq_true', beq_eq_false_iff_ne, bne_iff_ne]; omega
                  have e22 : ((pv : Int) != (ov : Int)) = !(pv == ov) := by rw [Bool.eq_iff_iff, Bool.not_eq_true', beq_eq_false_iff_ne, bne_iff_ne]; omega
                  cases h1 : av == pv with
                  | true =>
                    as_aux_lemma =>
                    refine Chain.runQ 11 fun K hK => ?_; simp [e11, h1]; refine hK _ _ ?_; clear hK K
                    refine Chain.sub (S' := mk 118 [] [(0, eV txs), (3, .ref 115 0 k), (7, .ref 23 0 ms.length), (15, eV txs), (16, .d (.lit (.int .i64 txs.length))), (17, .d (.lit (.int .i64 k))), (57, .ref 23 0 ms.length), (58, .d (.lit (.int .i64 ms.length))), (59, .d (.lit (.int .i64 a))), (10, .d (.lit (.int .i64 av))), (63, .ref 23 0 ms.length), (64, .d (.lit (.int .i64 ms.length))), (65, .d (.lit (.int .i64 p))), (12, .d (.lit (.int .i64 pv))), (69, .ref 23 0 ms.length), (70, .d (.lit (.int .i64 ms.length))), (71, .d (.lit (.int .i64 o))), (14, .d (.lit (.int .i64 ov))), (76, .d (.lit (.bool true))), (85, .d (.lit (.bool false)))] [(115, some (.arr 4 1 (A.map eC))), (23, some (.arr 3 1 (ms.map eN)))]) (Sub.table (by simp) (by simp)) ?_
                    refine Chain.runQ 11 fun K hK => ?_; simp; refine hK _ _ ?_; clear hK K
                    refine Chain.sub (S' := mk 118 [] [(0, eV txs), (3, .ref 115 0 k), (7, .ref 23 0 ms.length), (15, eV txs), (16, .d (.lit (.int .i64 txs.length))), (17, .d (.lit (.int .i64 k))), (57, .ref 23 0 ms.length), (58, .d (.lit (.int .i64 ms.length))), (59, .d (.lit (.int .i64 a))), (10, .d (.lit (.int .i64 av))), (63, .ref 23 0 ms.length), (64, .d (.lit (.int .i64 ms.length))), (65, .d (.lit (.int .i64 p))), (12, .d (.lit (.int .i64 pv))), (69, .ref 23 0 ms.length), (70, .d (.lit (.int .i64 ms.length))), (71, .d (.lit (.int .i64 o))), (14, .d (.lit (.int .i64 ov))), (76, .d (.lit (.bool true))), (96, .d (.lit (.bool false)))] [(115, some (.arr 4 1 (A.map eC))), (23, some (.arr 3 1 (ms.map eN)))]) (Sub.table (by simp) (by simp)) ?_
                    refine Chain.runQ 13 fun K hK => ?_; simp; exact hK _ _ (Chain.nil (Sub.table (by simp) (by simp)))
                  | false =>
                    refine Chain.runQ 11 fun K hK => ?_; simp [e11, e22, h1]; refine hK _ _ ?_; clear hK K
                    cases h2 : pv == ov with
                    | true =>
                      as_aux_lemma =>
                      refine Chain.sub (S' := mk 118 [] [(0, eV txs), (3, .ref 115 0 k), (7, .ref 23 0 ms.length), (15, eV txs), (16, .d (.lit (.int .i64 txs.length))), (17, .d (.lit (.int .i64 k))), (57, .ref 23 0 ms.length), (58, .d (.lit (.int .i64 ms.length))), (59, .d (.lit (.int .i64 a))), (10, .d (.lit (.int .i64 av))), (63, .ref 23 0 ms.length), (64, .d (.lit (.int .i64 ms.length))), (65, .d (.lit (.int .i64 p))), (12, .d (.lit (.int .i64 pv))), (69, .ref 23 0 ms.length), (70, .d (.lit (.int .i64 ms.length))), (71, .d (.lit (.int .i64 o))), (14, .d (.lit (.int .i64 ov))), (76, .d (.lit (.bool true))), (85, .d (.lit (.bool false)))] [(115, some (.arr 4 1 (A.map eC))), (23, some (.arr 3 1 (ms.map eN)))]) (Sub.table (by simp) (by simp)) ?_
                      refine Chain.runQ 11 fun K hK => ?_; simp; refine hK _ _ ?_; clear hK K
                      refine Chain.sub (S' := mk 118 [] [(0, eV txs), (3, .ref 115 0 k), (7, .ref 23 0 ms.length), (15, eV txs), (16, .d (.lit (.int .i64 txs.length))), (17, .d (.lit (.int .i64 k))), (57, .ref 23 0 ms.length), (58, .d (.lit (.int .i64 ms.length))), (59, .d (.lit (.int .i64 a))), (10, .d (.lit (.int .i64 av))), (63, .ref 23 0 ms.length), (64, .d (.lit (.int .i64 ms.length))), (65, .d (.lit (.int .i64 p))), (12, .d (.lit (.int .i64 pv))), (69, .ref 23 0 ms.length), (70, .d (.lit (.int .i64 ms.length))), (71, .d (.lit (.int .i64 o))), (14, .d (.lit (.int .i64 ov))), (76, .d (.lit (.bool true))), (96, .d (.lit (.bool false)))] [(115, some (.arr 4 1 (A.map eC))), (23, some (.arr 3 1 (ms.map eN)))]) (Sub.table (by simp) (by simp)) ?_
                      refine Chain.runQ 13 fun K hK => ?_; simp; exact hK _ _ (Chain.nil (Sub.table (by simp) (by simp)))
                    | false =>
                      as_aux_lemma =>
                      refine Chain.sub (S' := mk 118 [] [(0, eV txs), (3, .ref 115 0 k), (7, .ref 23 0 ms.length), (15, eV txs), (16, .d (.lit (.int .i64 txs.length))), (17, .d (.lit (.int .i64 k))), (57, .ref 23 0 ms.length), (58, .d (.lit (.int .i64 ms.length))), (59, .d (.lit (.int .i64 a))), (10, .d (.lit (.int .i64 av))), (63, .ref 23 0 ms.length), (64, .d (.lit (.int .i64 ms.length))), (65, .d (.lit (.int .i64 p))), (12, .d (.lit (.int .i64 pv))), (69, .ref 23 0 ms.length), (70, .d (.lit (.int .i64 ms.length))), (71, .d (.lit (.int .i64 o))), (14, .d (.lit (.int .i64 ov))), (76, .d (.lit (.bool true))), (85, .d (.lit (.bool true)))] [(115, some (.arr 4 1 (A.map eC))), (23, some (.arr 3 1 (ms.map eN)))]) (Sub.table (by simp) (by simp)) ?_
                      refine Chain.runQ 8 fun K hK => ?_; simp [hxa, hxp]; refine hK _ _ ?_; clear hK K
                      refine Chain.callX (d := 94) (by simp) rfl rfl (by simp <;> rfl) (by simp <;> rfl) ent40 (f40 xa xp) (by simp <;> rfl) ?_
                      refine Chain.runQ 2 fun K hK => ?_; simp; refine hK _ _ ?_; clear hK K
                      refine Chain.sub (S' := mk 118 [] [(0, eV txs), (3, .ref 115 0 k), (7, .ref 23 0 ms.length), (15, eV txs), (16, .d (.lit (.int .i64 txs.length))), (17, .d (.lit (.int .i64 k))), (57, .ref 23 0 ms.length), (58, .d (.lit (.int .i64 ms.length))), (59, .d (.lit (.int .i64 a))), (10, .d (.lit (.int .i64 av))), (63, .ref 23 0 ms.length), (64, .d (.lit (.int .i64 ms.length))), (65, .d (.lit (.int .i64 p))), (12, .d (.lit (.int .i64 pv))), (69, .ref 23 0 ms.length), (70, .d (.lit (.int .i64 ms.length))), (71, .d (.lit (.int .i64 o))), (14, .d (.lit (.int .i64 ov))), (76, .d (.lit (.bool true))), (96, .d (.lit (.bool (antiB xa xp))))] [(115, some (.arr 4 1 (A.map eC))), (23, some (.arr 3 1 (ms.map eN)))]) (Sub.table (by simp) (by simp)) ?_
                      cases hc : antiB xa xp with
                      | false => refine Chain.runQ 13 fun K hK => ?_; simp; exact hK _ _ (Chain.nil (Sub.table (by simp) (by simp)))
                      | true =>
                        refine Chain.runQ 8 fun K hK => ?_; simp [hxp, hxo]; refine hK _ _ ?_; clear hK K
                        refine Chain.callX (d := 105) (by simp) rfl rfl (by simp <;> rfl) (by simp <;> rfl) ent40 (f40 xp xo) (by simp <;> rfl) ?_
                        refine Chain.runQ 4 fun K hK => ?_; simp; exact hK _ _ (Chain.nil (Sub.table (by simp) (by simp)))
              · intro S' hS
                refine AW.sub hS ?_
                refine AW.goE [] 2 fun K hK => ?_; simp [hwo]; refine hK _ ?_; clear hK K
                exact ⟨hlo, Sub.table (by simp) (by simp)⟩
            · have he : o = ms.length := by omega
              subst he
              refine AW.goR [] 1 fun K hK => ?_; simp; refine hK _ ?_; clear hK K
              refine AW.seq (AW.condK fun K1 K2 k1 k2 => ?_); simp; refine k2 ?_; clear k1 k2 K1 K2
              refine AW.exit ?_; simp only [thenQ, blockQ, if_true]
              have hto : triOut txs ms av pv = ms.any (tri txs av pv) := rfl
              refine AW.goE [] 2 fun K hK => ?_; simp [hwp]; refine hK _ ?_; clear hK K
              exact ⟨hlp, Sub.table (by simp [any_take_succ hpv, pre_or, hv2, hto, pre, Bool.and_assoc]) (by simp)⟩
          · have he : p = ms.length := by omega
            subst he
            refine AW.goR [] 1 fun K hK => ?_; simp; refine hK _ ?_; clear hK K
            refine AW.seq (AW.condK fun K1 K2 k1 k2 => ?_); simp; refine k2 ?_; clear k1 k2 K1 K2
            refine AW.exit ?_; simp only [thenQ, blockQ, if_true]
            have hto : triPiv txs ms av = ms.any (triOut txs ms av) := rfl
            refine AW.goE [] 2 fun K hK => ?_; simp [hwa]; refine hK _ ?_; clear hK K
            exact ⟨hla, Sub.table (by simp [any_take_succ hav, pre_or, hv1, hto, pre, Bool.and_assoc]) (by simp)⟩
        · have he : a = ms.length := by omega
          subst he
          refine AW.goR [] 1 fun K hK => ?_; simp; refine hK _ ?_; clear hK K
          refine AW.seq (AW.condK fun K1 K2 k1 k2 => ?_); simp; refine k2 ?_; clear k1 k2 K1 K2
          refine AW.exit ?_; simp only [thenQ, blockQ, if_true]
          have hr : k + 1 ≤ reach := Nat.le_trans (show k + 1 ≤ 100 by omega) (by decide)
          have hti : triIn txs ms = ms.any (triPiv txs ms) := rfl
          refine AW.goE [114] 5 fun K hK => ?_; simp [hA, hr]; refine hK _ ?_; clear hK K
          refine AW.goE [] 2 fun K hK => ?_; simp [hw]; refine hK _ ?_; clear hK K
          exact ⟨hlt, Sub.table (by simp) (by simp [hsucc, hti, pre])⟩
  · have hki : i = txs.length := by omega
    subst hki
    refine AW.goR [] 1 fun K hK => ?_; simp; refine hK _ ?_; clear hK K
    refine AW.seq (AW.condK fun K1 K2 k1 k2 => ?_); simp; refine k2 ?_; clear k1 k2 K1 K2
    refine AW.exit ?_; simp only [thenQ, blockQ, if_true]
    refine AW.goR [] 2 fun K hK => ?_; simp; refine hK _ ?_; clear hK K
    refine AW.ret ?_; try simp only [thenQ, blockQ]
    refine Fin.ret fun K hK => ?_; simp; exact hK _ (.inr ⟨115, 4, 1, _, rfl, by simp, 115, rfl, rfl⟩)

end Go.Proofs.Ytabjbkdlacibjaa
