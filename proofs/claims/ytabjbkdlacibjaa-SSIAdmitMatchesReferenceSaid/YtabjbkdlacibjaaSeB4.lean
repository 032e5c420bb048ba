/- slices.Equal, transactions, ssi.Admit, ssi.Antidependency, the known case. -/
import Derived.Test.YtabjbkdlacibjaaSeB3
namespace Go.Proofs.Ytabjbkdlacibjaa
open Go.Ab Go.Rp
open Go.Ab.Enc (eC eV)

attribute [-simp] List.all_eq_true Array.all_toList Array.all_eq_true

theorem take_snoc {α : Type} {xs : List α} {k : Nat} {x : α} (hx : xs[k]? = some x) : xs.take (k + 1) = xs.take k ++ [x] := by
  rw [List.take_add_one, hx]; rfl

theorem f41 (xs ys : List Bool) : Fun Try.prog 41 [eV xs, eV ys] (fun r _ => r = .d (.lit (.bool (decide (xs = ys))))) := by
  refine Fun.fin Try.func41 rfl (of_decide_eq_true rfl) ?_
  refine AW.len 0 rfl fun hla => ?_
  simp at hla
  refine AW.len 1 rfl fun hlb => ?_
  simp at hlb
  refine AW.goR [] 1 fun K hK => ?_; simp; refine hK _ ?_; clear hK K
  refine AW.seq ?_
  refine AW.goR [] 5 fun K hK => ?_; simp; refine hK _ ?_; clear hK K
  by_cases hl : (xs.length : Int) = (ys.length : Int)
  case neg =>
    refine AW.condK fun K1 K2 k1 k2 => ?_; simp [hl]; refine k1 ?_; clear k1 k2 K1 K2
    refine AW.goR [] 1 fun K hK => ?_; simp; refine hK _ ?_; clear hK K
    refine AW.ret ?_; try simp only [thenQ, blockQ]
    refine Fin.ret fun K hK => ?_; simp; refine hK _ (.inl ⟨rfl, ?_⟩)
    rw [decide_eq_false (fun h => hl (by rw [h]))]
  have hln : xs.length = ys.length := by omega
  refine AW.condK fun K1 K2 k1 k2 => ?_; simp [hl]; refine k2 ?_; clear k1 k2 K1 K2
  refine AW.skip ?_
  refine AW.seq ?_
  refine AW.goR [] 3 fun K hK => ?_; simp; refine hK _ ?_; clear hK K
  refine AW.block ?_
  refine AW.forP xs.length (fun k => mk 26 [] [(0, eV xs), (1, eV ys), (12, .d (.lit (.int .i64 xs.length))), (13, .d (.lit (.int .i64 k)))] []) (fun k => xs.take k = ys.take k) (Sub.table (by simp) (by simp)) rfl fun k hk hp => ?_
  by_cases hlt : k < xs.length
  · obtain ⟨x, hx⟩ := getAt hlt
    obtain ⟨y, hy⟩ := getAt (show k < ys.length by omega)
    have hw : IntKind.i64.wrap ((k : Int) + 1) = (k : Int) + 1 := wrap_i64 (by omega) (by omega)
    refine AW.goR [] 1 fun K hK => ?_; simp; refine hK _ ?_; clear hK K
    refine AW.seq (AW.condK fun K1 K2 k1 k2 => ?_); simp [hlt]; refine k1 ?_; clear k1 k2 K1 K2
    refine AW.skip ?_
    refine AW.seq (AW.block ?_)
    refine AW.goR [] 2 fun K hK => ?_; simp; refine hK _ ?_; clear hK K
    refine AW.goQ (by kernel_rfl) (by kernel_rfl) 9 fun K hK => ?_; simp [hx, hy]; refine hK _ ?_; clear hK K
    refine AW.condK fun K1 K2 k1 k2 => ?_; simp; refine ⟨fun h => k1 ?_, fun h => k2 ?_⟩ <;> clear k1 k2 K1 K2
    · refine AW.goR [] 1 fun K hK => ?_; simp; refine hK _ ?_; clear hK K
      refine AW.ret ?_; try simp only [thenQ, blockQ]
      refine Fin.ret fun K hK => ?_; simp; refine hK _ (.inl ⟨rfl, ?_⟩)
      rw [decide_eq_false (fun h' => h (by subst h'; rw [hx] at hy; exact Option.some.inj hy))]
    · refine AW.skip ?_
      refine AW.goE [] 2 fun K hK => ?_; simp [hw]; refine hK _ ?_; clear hK K
      exact ⟨hlt, by rw [take_snoc hx, take_snoc hy, hp, h], Sub.table (by simp) (by simp)⟩
  · have hki : k = xs.length := by omega
    subst hki
    refine AW.goR [] 1 fun K hK => ?_; simp; refine hK _ ?_; clear hK K
    refine AW.seq (AW.condK fun K1 K2 k1 k2 => ?_); simp; refine k2 ?_; clear k1 k2 K1 K2
    refine AW.exit ?_; simp only [thenQ, blockQ, if_true]
    refine AW.goR [] 1 fun K hK => ?_; simp; refine hK _ ?_; clear hK K
    refine AW.ret ?_; try simp only [thenQ, blockQ]
    refine Fin.ret fun K hK => ?_; simp; refine hK _ (.inl ⟨rfl, ?_⟩)
    rw [List.take_of_length_le (Nat.le_refl _), hln, List.take_of_length_le (Nat.le_refl _)] at hp
    rw [decide_eq_true hp]

theorem f34 (txs : List Tx) (hz : txs.length * 64 ≤ reach) : Fun Try.prog 34 [eV txs] (fun r k => ∃ id, r = .ref id 0 txs.length ∧ k = some (.arr 105 4 (txs.map eC))) := by
  refine Fun.fin Try.func34 rfl (of_decide_eq_true rfl) ?_
  refine AW.len 0 rfl fun hla => ?_
  simp at hla
  refine AW.goR [] 1 fun K hK => ?_; simp; refine hK _ ?_; clear hK K
  refine AW.goR [] 1 fun K hK => ?_; simp; refine hK _ ?_; clear hK K
  refine AW.seq ?_
  refine AW.goR [] 3 fun K hK => ?_; simp; refine hK _ ?_; clear hK K
  refine AW.block ?_
  refine AW.forN txs.length (fun k => mk 26 [] [(3, .ref 23 0 k), (6, eV txs), (7, .d (.lit (.int .i64 txs.length))), (8, .d (.lit (.int .i64 k)))] [(23, some (.arr 105 4 ((txs.take k).map eC)))]) ((Sub.nilOwn (t := 3) (id := 23) (T := 105) (n := 4) rfl rfl (by decide)).trans (by simp; exact Sub.table (by simp) (by simp))) fun k hk => ?_
  by_cases hlt : k < txs.length
  · obtain ⟨x, hx⟩ := getAt hlt
    have hw : IntKind.i64.wrap ((k : Int) + 1) = (k : Int) + 1 := wrap_i64 (by omega) (by omega)
    have hr : (k + 1) * 64 ≤ reach := Nat.le_trans (Nat.mul_le_mul_right _ hlt) hz
    have hlen : min k txs.length = k := Nat.min_eq_left hk
    refine AW.goR [] 1 fun K hK => ?_; simp; refine hK _ ?_; clear hK K
    refine AW.seq (AW.condK fun K1 K2 k1 k2 => ?_); simp [hlt]; refine k1 ?_; clear k1 k2 K1 K2
    refine AW.skip ?_
    refine AW.seq (AW.block ?_)
    refine AW.goR [] 4 fun K hK => ?_; simp [hx]; refine hK _ ?_; clear hK K
    refine AW.goE [22] 13 fun K hK => ?_; simp [hlen, hr]; refine hK _ ?_; clear hK K
    refine AW.goE [] 2 fun K hK => ?_; simp [hw]; refine hK _ ?_; clear hK K
    exact ⟨hlt, Sub.table (by simp) (by simp [take_snoc hx])⟩
  · have hki : k = txs.length := by omega
    subst hki
    refine AW.goR [] 1 fun K hK => ?_; simp; refine hK _ ?_; clear hK K
    refine AW.seq (AW.condK fun K1 K2 k1 k2 => ?_); simp; refine k2 ?_; clear k1 k2 K1 K2
    refine AW.exit ?_; simp only [thenQ, blockQ, if_true]
    refine AW.goR [] 2 fun K hK => ?_; simp; refine hK _ ?_; clear hK K
    refine AW.ret ?_; try simp only [thenQ, blockQ]
    refine Fin.ret fun K hK => ?_; simp; refine hK _ (.inr ⟨23, 105, 4, txs.map eC, rfl, by simp, 23, rfl, rfl⟩)

set_option maxHeartbeats 1000000 in
theorem f36 (txs : List Tx) : Fun Try.prog 36 [eV txs] (fun r k => (checkT txs = 0 ∧ ∃ id, r = .tup [.ref id 0 txs.length, .d (.lit (.int .i64 0))] ∧ k = some (.arr 4 1 ((admTo txs txs.length).map eC))) ∨ (checkT txs ≠ 0 ∧ r = .tup [.d (.lit (.slice none 0 0)), .d (.lit (.int .i64 (checkT txs)))] ∧ k = none)) := by
  refine Fun.fin Try.func36 rfl (of_decide_eq_true rfl) ?_
  refine AW.len 0 rfl fun hla => ?_
  simp at hla
  refine AW.goR [] 2 fun K hK => ?_; simp; refine hK _ ?_; clear hK K
  refine AW.seq ?_
  refine AW.seqR ?_
  refine Chain.runK [] 1 fun K hK => ?_; simp; refine hK _ _ ?_; clear hK K
  refine Chain.callX (d := 8) (by simp) rfl rfl (by simp <;> rfl) (by simp <;> rfl) ent38 (f38 txs) (by simp <;> rfl) ?_
  refine Chain.runK [] 1 fun K hK => ?_; simp; refine hK _ _ ?_; clear hK K
  refine Chain.nil ?_
  refine AW.goR [] 2 fun K hK => ?_; simp; refine hK _ ?_; clear hK K
  by_cases hc : checkT txs = 0
  case neg =>
    refine AW.condK fun K1 K2 k1 k2 => ?_; simp [hc]; refine k1 ?_; clear k1 k2 K1 K2
    refine AW.goR [] 3 fun K hK => ?_; simp; refine hK _ ?_; clear hK K
    refine AW.ret ?_; try simp only [thenQ, blockQ]
    refine Fin.ret fun K hK => ?_; simp; refine hK _ (.inl ⟨rfl, .inr ⟨hc, rfl, rfl⟩⟩)
  have hsm := checkT_small hc
  refine AW.condK fun K1 K2 k1 k2 => ?_; simp [hc]; refine k2 ?_; clear k1 k2 K1 K2
  refine AW.skip ?_
  have hr : txs.length ≤ reach := Nat.le_trans hsm (by decide)
  refine AW.goR [] 4 fun K hK => ?_; simp [hr]; refine hK _ ?_; clear hK K
  refine AW.seq ?_
  refine AW.goR [] 3 fun K hK => ?_; simp; refine hK _ ?_; clear hK K
  refine AW.block ?_
  refine AW.forN txs.length (fun k => mk 40 [] [(0, eV txs), (5, .ref 14 0 txs.length), (16, .d (.lit (.int .i64 txs.length))), (17, .d (.lit (.int .i64 k)))] [(14, some (.arr 4 1 ((admTo txs k).map eC)))]) (Sub.table (by simp) (by simp [admTo])) fun k hk => ?_
  have hlA := admTo_length txs k
  have hsucc : admTo txs (k + 1) = admStep txs (admTo txs k) k := rfl
  unfold admStep at hsucc
  by_cases hlt : k < txs.length
  · generalize admTo txs k = A at hlA hsucc ⊢
    have hw : IntKind.i64.wrap ((k : Int) + 1) = (k : Int) + 1 := wrap_i64 (by omega) (by omega)
    refine AW.goR [] 1 fun K hK => ?_; simp; refine hK _ ?_; clear hK K
    refine AW.seq (AW.condK fun K1 K2 k1 k2 => ?_); simp [hlt]; refine k1 ?_; clear k1 k2 K1 K2
    refine AW.skip ?_
    refine AW.seq (AW.block ?_)
    refine AW.goR [] 2 fun K hK => ?_; simp; refine hK _ ?_; clear hK K
    obtain ⟨q, hq⟩ := getAt (show k < A.length by omega)
    refine AW.cutR (mk 40 [] [(0, eV txs), (5, .ref 14 0 txs.length), (6, .d (.lit (.int .i64 k))), (16, .d (.lit (.int .i64 txs.length))), (17, .d (.lit (.int .i64 k)))] [(14, some (.arr 4 1 ((A.set k true).map eC)))]) ?_ ?_
    · refine Chain.runK [] 4 fun K hK => ?_; simp [hlA, hq, if_pos hlt]; exact hK _ _ (Chain.nil (Sub.table (by simp) (by simp)))
    · have hlS : (A.set k true).length = txs.length := by simp [hlA]
      have hset : (A.set k true).set k (!wcTo txs (A.set k true) k k && !dgTo txs (A.set k true) k (k + 1)) = admTo txs (k + 1) := hsucc.symm
      have hq' : (A.set k true)[k]? = some true := by simp [hlA, hlt]
      generalize A.set k true = B at hlS hset hq'
      have htk : List.take txs.length (B.map eC) = B.map eC := List.take_of_length_le (by simp [hlS])
      refine AW.region (Chain.cut (mk 40 [] [(0, eV txs), (5, .ref 14 0 txs.length), (16, .d (.lit (.int .i64 txs.length))), (17, .d (.lit (.int .i64 k)))] [(14, some (.arr 4 1 ((admTo txs (k + 1)).map eC)))]) ?_ ?_)
      · rw [← hset]
        refine Chain.runK [] 5 fun K hK => ?_; simp; refine hK _ _ ?_; clear hK K
        refine Chain.callX (d := 28) (by simp) rfl rfl (by simp <;> rfl) (by simp [hlS, htk] <;> rfl) ent66 (f66 txs B k hlt hlS) (by simp <;> rfl) ?_
        cases hwc : wcTo txs B k k with
        | true => refine Chain.runK [] 10 fun K hK => ?_; simp [hlS, hq', if_pos hlt]; exact hK _ _ (Chain.nil (Sub.table (by simp) (by simp)))
        | false =>
          refine Chain.runK [] 5 fun K hK => ?_; simp; refine hK _ _ ?_; clear hK K
          refine Chain.callX (d := 34) (by simp) rfl rfl (by simp <;> rfl) (by simp [hlS, htk] <;> rfl) ent67 (f67 txs B k hlt hlS) (by simp <;> rfl) ?_
          refine Chain.runK [] 4 fun K hK => ?_; simp [hlS, hq', if_pos hlt]; exact hK _ _ (Chain.nil (Sub.table (by simp) (by simp)))
      · intro S' hS
        refine AW.sub hS ?_
        refine AW.goE [] 2 fun K hK => ?_; simp [hw]; refine hK _ ?_; clear hK K
        exact ⟨hlt, Sub.table (by simp) (by simp)⟩
  · have hki : k = txs.length := by omega
    subst hki
    refine AW.goR [] 1 fun K hK => ?_; simp; refine hK _ ?_; clear hK K
    refine AW.seq (AW.condK fun K1 K2 k1 k2 => ?_); simp; refine k2 ?_; clear k1 k2 K1 K2
    refine AW.exit ?_; simp only [thenQ, blockQ, if_true]
    refine AW.goR [] 3 fun K hK => ?_; simp; refine hK _ ?_; clear hK K
    refine AW.ret ?_; try simp only [thenQ, blockQ]
    refine Fin.ret fun K hK => ?_; simp; refine hK _ (.inr ⟨14, 4, 1, _, rfl, by simp, .inl ⟨hc, 14, rfl, rfl⟩⟩)

end Go.Proofs.Ytabjbkdlacibjaa
