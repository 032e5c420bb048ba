/- ssi.Check. -/
import Derived.Test.YtabjbkdlacibjaaSeB2
namespace Go.Proofs.Ytabjbkdlacibjaa
open Go.Ab Go.Rp
open Go.Ab.Enc (eC eV)

attribute [simp] Value.cells

def lastT (txs : List Tx) : Nat → Int
  | 0 => -1
  | k + 1 => (txs.getD k tx0).commit

set_option maxHeartbeats 1000000 in
theorem f38 (txs : List Tx) : Fun Try.prog 38 [eV txs] (fun r _ => r = .d (.lit (.int .i64 (checkT txs)))) := by
  refine Fun.fin Try.func38 rfl (of_decide_eq_true rfl) ?_
  refine AW.len 0 rfl fun hla => ?_
  simp at hla
  refine AW.goR [] 1 fun K hK => ?_; simp; refine hK _ ?_; clear hK K
  refine AW.seq ?_
  refine AW.goR [] 3 fun K hK => ?_; simp; refine hK _ ?_; clear hK K
  refine AW.condK fun K1 K2 k1 k2 => ?_; simp; refine ⟨fun h => k1 ?_, fun h => k2 ?_⟩ <;> clear k1 k2 K1 K2
  · refine AW.goR [] 1 fun K hK => ?_; simp; refine hK _ ?_; clear hK K
    refine AW.ret ?_; try simp only [thenQ, blockQ]
    refine Fin.ret fun K hK => ?_; simp; refine hK _ (.inl ⟨rfl, ?_⟩)
    rw [checkT, if_pos (by omega)]
  refine AW.skip ?_
  have hcT : checkT txs = chk (-1) txs := if_neg (by omega)
  rw [hcT]
  refine AW.seq ?_
  refine AW.goR [] 3 fun K hK => ?_; simp; refine hK _ ?_; clear hK K
  refine AW.block ?_
  refine AW.forP txs.length (fun k => mk 54 [] [(0, eV txs), (8, eV txs), (9, .d (.lit (.int .i64 txs.length))), (10, .d (.lit (.int .i64 k)))] []) (fun k => chk (-1) txs = chk (lastT txs k) (txs.drop k)) (Sub.table (by simp) (by simp)) rfl fun k hk hp => ?_
  by_cases hlt : k < txs.length
  · obtain ⟨x, hx⟩ := getAt hlt
    have hw : IntKind.i64.wrap ((k : Int) + 1) = (k : Int) + 1 := wrap_i64 (by omega) (by omega)
    have hd : txs.drop k = x :: txs.drop (k + 1) := by
      rw [List.drop_eq_getElem_cons hlt]; congr; simpa [List.getElem?_eq_getElem hlt] using hx
    rw [hd] at hp
    have hgd : txs.getD k tx0 = x := getD_of hx
    refine AW.goR [] 1 fun K hK => ?_; simp; refine hK _ ?_; clear hK K
    refine AW.seq (AW.condK fun K1 K2 k1 k2 => ?_); simp [hlt]; refine k1 ?_; clear k1 k2 K1 K2
    refine AW.skip ?_
    refine AW.seq (AW.block ?_)
    refine AW.goR [] 6 fun K hK => ?_; simp [hx]; refine hK _ ?_; clear hK K
    refine AW.seq ?_
    refine AW.cutR (mk 54 [] [(0, eV txs), (3, .d (.lit (.int .i64 k))), (4, .ptr 4 0 0), (8, eV txs), (9, .d (.lit (.int .i64 txs.length))), (10, .d (.lit (.int .i64 k))), (24, .d (.lit (.bool (badLen x))))] [(4, some (.box [.d (.lit (.int .i64 x.start)), .d (.lit (.int .i64 x.commit)), .d (.sl (x.reads.map eC)), .d (.sl (x.writes.map eC))]))]) ?_ ?_
    · unfold badLen
      have e12 : ((12 : Int) < (x.reads.length : Int)) = (12 < x.reads.length) := propext ⟨fun h => by omega, fun h => by omega⟩
      have e12w : ((12 : Int) < (x.writes.length : Int)) = (12 < x.writes.length) := propext ⟨fun h => by omega, fun h => by omega⟩
      by_cases h12 : 12 < x.reads.length
      · refine Chain.runK [] 10 fun K hK => ?_; simp [e12, e12w, h12]; exact hK _ _ (Chain.nil (Sub.table (by simp [e12, e12w, h12]) (by simp)))
      · refine Chain.runK [] 10 fun K hK => ?_; simp [e12, e12w, h12]; exact hK _ _ (Chain.nil (Sub.table (by simp [e12, e12w, h12]) (by simp)))
    · refine AW.condK fun K1 K2 k1 k2 => ?_; simp; refine ⟨fun h => k1 ?_, fun h => k2 ?_⟩ <;> clear k1 k2 K1 K2
      · refine AW.goR [] 1 fun K hK => ?_; simp; refine hK _ ?_; clear hK K
        refine AW.ret ?_; try simp only [thenQ, blockQ]
        refine Fin.ret fun K hK => ?_; simp; refine hK _ (.inl ⟨rfl, ?_⟩)
        rw [hp, chk, if_pos h]
      have hbl := h
      refine AW.skip ?_
      refine AW.seq ?_
      refine AW.cutR (mk 54 [] [(0, eV txs), (3, .d (.lit (.int .i64 k))), (4, .ptr 4 0 0), (8, eV txs), (9, .d (.lit (.int .i64 txs.length))), (10, .d (.lit (.int .i64 k))), (39, .d (.lit (.bool (badTime x))))] [(4, some (.box [.d (.lit (.int .i64 x.start)), .d (.lit (.int .i64 x.commit)), .d (.sl (x.reads.map eC)), .d (.sl (x.writes.map eC))]))]) ?_ ?_
      · unfold badTime
        by_cases h1 : x.start < 0
        · refine Chain.runK [] 15 fun K hK => ?_; simp [h1]; exact hK _ _ (Chain.nil (Sub.table (by simp [h1]) (by simp)))
        by_cases h2 : 1099511627776 < x.commit
        · refine Chain.runK [] 15 fun K hK => ?_; simp [h1, h2]; exact hK _ _ (Chain.nil (Sub.table (by simp [h1, h2]) (by simp)))
        · refine Chain.runK [] 15 fun K hK => ?_; simp [h1, h2]; exact hK _ _ (Chain.nil (Sub.table (by simp [h1, h2]) (by simp)))
      · refine AW.condK fun K1 K2 k1 k2 => ?_; simp; refine ⟨fun h => k1 ?_, fun h => k2 ?_⟩ <;> clear k1 k2 K1 K2
        · refine AW.goR [] 1 fun K hK => ?_; simp; refine hK _ ?_; clear hK K
          refine AW.ret ?_; try simp only [thenQ, blockQ]
          refine Fin.ret fun K hK => ?_; simp; refine hK _ (.inl ⟨rfl, ?_⟩)
          rw [hp, chk, if_neg (by simp [hbl]), if_pos h]
        have hbt := h
        have hst : 0 ≤ x.start ∧ x.start < x.commit := by
          simp [badTime] at hbt; omega
        refine AW.skip ?_
        refine AW.cutQ (by kernel_rfl) (by kernel_rfl) (mk 54 [] [(0, eV txs), (8, eV txs), (9, .d (.lit (.int .i64 txs.length))), (10, .d (.lit (.int .i64 k))), (52, .d (.lit (.bool (decide (x.commit ≤ lastT txs k)))))] []) ?_ ?_
        · cases k with
          | zero =>
            have hz : ¬ x.commit ≤ lastT txs 0 := by show ¬ x.commit ≤ -1; omega
            refine Chain.runQ 13 fun K hK => ?_; simp; exact hK _ _ (Chain.nil (Sub.table (by simp [hz]) (by simp)))
          | succ m =>
            obtain ⟨y, hy⟩ := getAt (show m < txs.length by omega)
            have hl : lastT txs (m + 1) = y.commit := by show (txs.getD m tx0).commit = _; rw [getD_of hy]
            have hw' : IntKind.i64.wrap (m : Int) = (m : Int) := wrap_i64 (by omega) (by omega)
            have hgt : (0 : Int) < ((m + 1 : Nat) : Int) := by omega
            refine Chain.runQ 13 fun K hK => ?_; simp [hgt, hy, hw']
            exact hK _ _ (Chain.nil (Sub.table (by simp [hl]) (by simp)))
        · refine AW.condK fun K1 K2 k1 k2 => ?_; simp; refine ⟨fun h => k1 ?_, fun h => k2 ?_⟩ <;> clear k1 k2 K1 K2
          · refine AW.goR [] 1 fun K hK => ?_; simp; refine hK _ ?_; clear hK K
            refine AW.ret ?_; try simp only [thenQ, blockQ]
            refine Fin.ret fun K hK => ?_; simp; refine hK _ (.inl ⟨rfl, ?_⟩)
            rw [hp, chk, if_neg (by simp [hbl]), if_neg (by simp [hbt]), if_pos h]
          · have hco := h
            refine AW.skip ?_
            refine AW.goE [] 2 fun K hK => ?_; simp [hw]; refine hK _ ?_; clear hK K
            refine ⟨hlt, ?_, Sub.table (by simp) (by simp)⟩
            rw [hp, chk, if_neg (by simp [hbl]), if_neg (by simp [hbt]), if_neg (by omega)]
            show _ = chk (txs.getD k tx0).commit _
            rw [hgd]
  · have hki : k = txs.length := by omega
    subst hki
    refine AW.goR [] 1 fun K hK => ?_; simp; refine hK _ ?_; clear hK K
    refine AW.seq (AW.condK fun K1 K2 k1 k2 => ?_); simp; refine k2 ?_; clear k1 k2 K1 K2
    refine AW.exit ?_; simp only [thenQ, blockQ, if_true]
    refine AW.goR [] 1 fun K hK => ?_; simp; refine hK _ ?_; clear hK K
    refine AW.ret ?_; try simp only [thenQ, blockQ]
    refine Fin.ret fun K hK => ?_; simp; refine hK _ (.inl ⟨rfl, ?_⟩)
    rw [hp, List.drop_length]; rfl
set_option maxHeartbeats 1000000 in
theorem f37 (txs : List Tx) : Fun Try.prog 37 [eV txs] (fun r _ => r = .d (.lit (.int .i64 (checkT txs)))) := by
  refine Fun.fin Try.func37 rfl (of_decide_eq_true rfl) ?_
  refine AW.len 0 rfl fun hla => ?_
  simp at hla
  refine AW.goR [] 1 fun K hK => ?_; simp; refine hK _ ?_; clear hK K
  refine AW.seq ?_
  refine AW.goR [] 3 fun K hK => ?_; simp; refine hK _ ?_; clear hK K
  refine AW.condK fun K1 K2 k1 k2 => ?_; simp; refine ⟨fun h => k1 ?_, fun h => k2 ?_⟩ <;> clear k1 k2 K1 K2
  · refine AW.goR [] 1 fun K hK => ?_; simp; refine hK _ ?_; clear hK K
    refine AW.ret ?_; try simp only [thenQ, blockQ]
    refine Fin.ret fun K hK => ?_; simp; refine hK _ (.inl ⟨rfl, ?_⟩)
    rw [checkT, if_pos (by omega)]
  refine AW.skip ?_
  have hcT : checkT txs = chk (-1) txs := if_neg (by omega)
  rw [hcT]
  refine AW.goR [] 1 fun K hK => ?_; simp; refine hK _ ?_; clear hK K
  refine AW.seq ?_
  refine AW.goR [] 3 fun K hK => ?_; simp; refine hK _ ?_; clear hK K
  refine AW.block ?_
  refine AW.forP txs.length (fun k => mk 50 [] [(3, .d (.lit (.int .i64 (lastT txs k)))), (9, eV txs), (10, .d (.lit (.int .i64 txs.length))), (11, .d (.lit (.int .i64 k)))] []) (fun k => chk (-1) txs = chk (lastT txs k) (txs.drop k)) (Sub.table (by simp [lastT]) (by simp)) rfl fun k hk hp => ?_
  by_cases hlt : k < txs.length
  · obtain ⟨x, hx⟩ := getAt hlt
    have hw : IntKind.i64.wrap ((k : Int) + 1) = (k : Int) + 1 := wrap_i64 (by omega) (by omega)
    have hd : txs.drop k = x :: txs.drop (k + 1) := by
      rw [List.drop_eq_getElem_cons hlt]; congr; simpa [List.getElem?_eq_getElem hlt] using hx
    rw [hd] at hp
    have hgd : txs.getD k tx0 = x := getD_of hx
    have hl1 : lastT txs (k + 1) = x.commit := by show (txs.getD k tx0).commit = _; rw [hgd]
    refine AW.goR [] 1 fun K hK => ?_; simp; refine hK _ ?_; clear hK K
    refine AW.seq (AW.condK fun K1 K2 k1 k2 => ?_); simp [hlt]; refine k1 ?_; clear k1 k2 K1 K2
    refine AW.skip ?_
    refine AW.seq (AW.block ?_)
    refine AW.goR [] 4 fun K hK => ?_; simp [hx]; refine hK _ ?_; clear hK K
    refine AW.seq (AW.block ?_)
    refine AW.cutR (mk 50 [] [(3, .d (.lit (.int .i64 (lastT txs k)))), (5, .ptr 5 0 0), (9, eV txs), (10, .d (.lit (.int .i64 txs.length))), (11, .d (.lit (.int .i64 k))), (15, .d (.lit (.bool (badLen x))))] [(5, some (.box [.d (.lit (.int .i64 x.start)), .d (.lit (.int .i64 x.commit)), .d (.sl (x.reads.map eC)), .d (.sl (x.writes.map eC))]))]) ?_ ?_
    · unfold badLen
      have e12 : ((12 : Int) < (x.reads.length : Int)) = (12 < x.reads.length) := propext ⟨fun h => by omega, fun h => by omega⟩
      have e12w : ((12 : Int) < (x.writes.length : Int)) = (12 < x.writes.length) := propext ⟨fun h => by omega, fun h => by omega⟩
      by_cases h12 : 12 < x.reads.length
      · refine Chain.runK [] 11 fun K hK => ?_; simp [e12, e12w, h12]; exact hK _ _ (Chain.nil (Sub.table (by simp [e12, e12w, h12]) (by simp)))
      · refine Chain.runK [] 11 fun K hK => ?_; simp [e12, e12w, h12]; exact hK _ _ (Chain.nil (Sub.table (by simp [e12, e12w, h12]) (by simp)))
    · refine AW.condK fun K1 K2 k1 k2 => ?_; simp; refine ⟨fun h => k1 ?_, fun h => k2 ?_⟩ <;> clear k1 k2 K1 K2
      · refine AW.goR [] 1 fun K hK => ?_; simp; refine hK _ ?_; clear hK K
        refine AW.ret ?_; try simp only [thenQ, blockQ]
        refine Fin.ret fun K hK => ?_; simp; refine hK _ (.inl ⟨rfl, ?_⟩)
        rw [hp, chk, if_pos h]
      have hbl := h
      refine AW.cutR (mk 50 [] [(3, .d (.lit (.int .i64 (lastT txs k)))), (5, .ptr 5 0 0), (9, eV txs), (10, .d (.lit (.int .i64 txs.length))), (11, .d (.lit (.int .i64 k))), (26, .d (.lit (.bool (badTime x))))] [(5, some (.box [.d (.lit (.int .i64 x.start)), .d (.lit (.int .i64 x.commit)), .d (.sl (x.reads.map eC)), .d (.sl (x.writes.map eC))]))]) ?_ ?_
      · unfold badTime
        by_cases h1 : x.start < 0
        · refine Chain.runK [] 16 fun K hK => ?_; simp [h1]; exact hK _ _ (Chain.nil (Sub.table (by simp [h1]) (by simp)))
        by_cases h2 : 1099511627776 < x.commit
        · refine Chain.runK [] 16 fun K hK => ?_; simp [h1, h2]; exact hK _ _ (Chain.nil (Sub.table (by simp [h1, h2]) (by simp)))
        · refine Chain.runK [] 16 fun K hK => ?_; simp [h1, h2]; exact hK _ _ (Chain.nil (Sub.table (by simp [h1, h2]) (by simp)))
      · refine AW.condK fun K1 K2 k1 k2 => ?_; simp; refine ⟨fun h => k1 ?_, fun h => k2 ?_⟩ <;> clear k1 k2 K1 K2
        · refine AW.goR [] 1 fun K hK => ?_; simp; refine hK _ ?_; clear hK K
          refine AW.ret ?_; try simp only [thenQ, blockQ]
          refine Fin.ret fun K hK => ?_; simp; refine hK _ (.inl ⟨rfl, ?_⟩)
          rw [hp, chk, if_neg (by simp [hbl]), if_pos h]
        have hbt := h
        refine AW.goR [] 5 fun K hK => ?_; simp; refine hK _ ?_; clear hK K
        refine AW.condK fun K1 K2 k1 k2 => ?_; simp; refine ⟨fun h => k1 ?_, fun h => k2 ?_⟩ <;> clear k1 k2 K1 K2
        · refine AW.goR [] 1 fun K hK => ?_; simp; refine hK _ ?_; clear hK K
          refine AW.ret ?_; try simp only [thenQ, blockQ]
          refine Fin.ret fun K hK => ?_; simp; refine hK _ (.inl ⟨rfl, ?_⟩)
          rw [hp, chk, if_neg (by simp [hbl]), if_neg (by simp [hbt]), if_pos h]
        · have hco := h
          refine AW.skip ?_
          refine AW.goE [] 3 fun K hK => ?_; simp; refine hK _ ?_; clear hK K
          refine AW.goE [] 2 fun K hK => ?_; simp [hw]; refine hK _ ?_; clear hK K
          refine ⟨hlt, ?_, Sub.table (by simp [hl1]) (by simp)⟩
          rw [hp, chk, if_neg (by simp [hbl]), if_neg (by simp [hbt]), if_neg (by omega), hl1]
  · have hki : k = txs.length := by omega
    subst hki
    refine AW.goR [] 1 fun K hK => ?_; simp; refine hK _ ?_; clear hK K
    refine AW.seq (AW.condK fun K1 K2 k1 k2 => ?_); simp; refine k2 ?_; clear k1 k2 K1 K2
    refine AW.exit ?_; simp only [thenQ, blockQ, if_true]
    refine AW.goR [] 1 fun K hK => ?_; simp; refine hK _ ?_; clear hK K
    refine AW.ret ?_; try simp only [thenQ, blockQ]
    refine Fin.ret fun K hK => ?_; simp; refine hK _ (.inl ⟨rfl, ?_⟩)
    rw [hp, List.drop_length]; rfl
end Go.Proofs.Ytabjbkdlacibjaa
