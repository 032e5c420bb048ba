/- the law SSIAdmitMatchesReference returns true. -/
import Derived.Test.YtabjbkdlacibjaaSeB6
namespace Go.Proofs.Ytabjbkdlacibjaa
open Go.Ab Go.Rp
open Go.Ab.Enc (eC eV)
attribute [-simp] List.all_eq_true Array.all_toList Array.all_eq_true

def btw (x a b : Int) : Bool := decide (a ≤ x) && decide (x ≤ b)
theorem f39 (x a b : Int) : Fun Try.prog 39 [eV x, eV a, eV b] (fun r _ => r = .d (.lit (.bool (btw x a b)))) := by
  refine Fun.fin Try.func39 rfl (of_decide_eq_true rfl) ?_
  refine AW.goR [] 1 fun K hK => ?_; simp; refine hK _ ?_; clear hK K
  by_cases h : a ≤ x
  · refine AW.goR [] 9 fun K hK => ?_; simp [h]; refine hK _ ?_; clear hK K
    refine AW.ret ?_; try simp only [thenQ, blockQ]
    refine Fin.ret fun K hK => ?_; simp; refine hK _ (.inl ⟨rfl, by simp [btw, h]⟩)
  · refine AW.goR [] 9 fun K hK => ?_; simp [h]; refine hK _ ?_; clear hK K
    refine AW.ret ?_; try simp only [thenQ, blockQ]
    refine Fin.ret fun K hK => ?_; simp; refine hK _ (.inl ⟨rfl, by simp [btw, h]⟩)
theorem badIK_btw (n : Nat) (i k : Int) : badIK n i k = (!btw i 0 ((n : Int) - 1) || (!btw k 0 ((n : Int) - 1) || (i == k))) := by
  rw [Bool.eq_iff_iff]
  simp only [badIK, btw, Bool.or_eq_true, Bool.not_eq_true', Bool.and_eq_false_iff, decide_eq_true_eq, decide_eq_false_iff_not, beq_iff_eq]
  omega

set_option maxRecDepth 100000 in
set_option maxHeartbeats 4000000 in
theorem f7 (txs : List Tx) (i k : Int) (hz : txs.length * 64 ≤ reach) : Fun Try.prog 7 [eV txs, eV i, eV k] (fun r _ => r = .d (.lit (.bool true))) := by
  refine Fun.fin Try.func7 rfl (of_decide_eq_true rfl) ?_
  refine AW.len 0 rfl fun hla => ?_
  simp at hla
  have htk : List.take txs.length (txs.map eC) = txs.map eC := List.take_of_length_le (by simp)
  refine AW.goR [] 1 fun K hK => ?_; simp; refine hK _ ?_; clear hK K
  refine AW.seq ?_
  refine AW.seqR ?_
  refine Chain.callX (d := 13) (by simp) rfl rfl (by simp <;> rfl) (by simp <;> rfl) ent33 f33 (by simp <;> rfl) ?_
  refine Chain.runK [] 1 fun K hK => ?_; simp; refine hK _ _ ?_; clear hK K
  refine Chain.nil ?_
  refine AW.condK fun K1 K2 k1 k2 => ?_; simp; refine k2 ?_; clear k1 k2 K1 K2
  refine AW.skip ?_
  refine AW.seqR ?_
  refine Chain.runK [] 1 fun K hK => ?_; simp; refine hK _ _ ?_; clear hK K
  refine Chain.call (d := 16) (by simp) rfl rfl (by simp <;> rfl) (by simp <;> rfl) ent34 (f34 txs hz) rfl (.inl ⟨rfl, rfl⟩) ?_
  rintro r kk ⟨id, rfl, rfl⟩
  refine Chain.runK [] 1 fun K hK => ?_; simp; refine hK _ _ ?_; clear hK K
  refine Chain.nil ?_
  refine AW.seqR ?_
  refine Chain.runK [] 3 fun K hK => ?_; simp; refine hK _ _ ?_; clear hK K
  refine Chain.callX (d := 21) (by simp) rfl rfl (by simp <;> rfl) (by simp [htk] <;> rfl) ent35 (f35 txs i k) (by simp <;> rfl) ?_
  refine Chain.runK [] 5 fun K hK => ?_; simp; refine hK _ _ ?_; clear hK K
  refine Chain.nil ?_
  refine AW.sub (S' := mk 97 [] [(0, eV txs), (1, eV i), (2, eV k), (7, .ref 16 0 txs.length), (8, .d (.lit (.bool (adepB txs i k)))), (9, .d (.lit (.int .i64 (adepE txs i k))))] [(16, some (.arr 105 4 (txs.map eC)))]) (Sub.table (by simp) (by simp)) ?_
  refine AW.seqR ?_
  refine Chain.runK [] 1 fun K hK => ?_; simp; refine hK _ _ ?_; clear hK K
  refine Chain.call (d := 26) (by simp) rfl rfl (by simp <;> rfl) (by simp [htk] <;> rfl) ent36 (f36 txs) rfl (.inr ?_) ?_
  · rintro r k (⟨_, id, rfl, rfl⟩ | ⟨_, rfl, rfl⟩)
    · refine ⟨rfl, ?_⟩
      rintro _ ⟨⟩
      intro e he x hx
      obtain ⟨b, _, rfl⟩ := List.mem_map.1 he
      rw [List.mem_singleton.1 hx]; rfl
    · exact ⟨rfl, by rintro _ ⟨⟩⟩
  rintro r kk (⟨hc, id, rfl, rfl⟩ | ⟨hc, rfl, rfl⟩)
  case inr =>
    have eB : adepB txs i k = false := by unfold adepB; rw [if_neg hc]
    have eE : adepE txs i k = checkT txs := by unfold adepE; rw [if_neg hc]
    rw [eB, eE]
    refine Chain.runK [] 5 fun K hK => ?_; simp; refine hK _ _ ?_; clear hK K
    refine Chain.nil ?_
    refine AW.seqR ?_
    refine Chain.runK [] 1 fun K hK => ?_; simp; refine hK _ _ ?_; clear hK K
    refine Chain.callX (d := 30) (by simp) rfl rfl (by simp <;> rfl) (by simp <;> rfl) ent37 (f37 txs) (by simp <;> rfl) ?_
    refine Chain.runK [] 1 fun K hK => ?_; simp; refine hK _ _ ?_; clear hK K
    refine Chain.nil ?_
    refine AW.seq ?_
    refine AW.seqR ?_
    refine Chain.runK [] 1 fun K hK => ?_; simp; refine hK _ _ ?_; clear hK K
    refine Chain.callX (d := 32) (by simp) rfl rfl (by simp <;> rfl) (by simp [htk] <;> rfl) ent38 (f38 txs) (by simp <;> rfl) ?_
    refine Chain.runK [] 7 fun K hK => ?_; simp; refine hK _ _ ?_; clear hK K
    refine Chain.nil ?_
    refine AW.condK fun K1 K2 k1 k2 => ?_; simp; refine k2 ?_; clear k1 k2 K1 K2
    refine AW.skip ?_
    refine AW.seq ?_
    refine AW.goR [] 2 fun K hK => ?_; simp; refine hK _ ?_; clear hK K
    refine AW.condK fun K1 K2 k1 k2 => ?_; simp [hc]; refine k1 ?_; clear k1 k2 K1 K2
    refine AW.goR [] 13 fun K hK => ?_; simp; refine hK _ ?_; clear hK K
    refine AW.ret ?_; try simp only [thenQ, blockQ]
    refine Fin.ret fun K hK => ?_; simp; exact hK _ (.inl ⟨rfl, rfl⟩)
  have hsm := checkT_small hc
  refine Chain.runK [] 5 fun K hK => ?_; simp; refine hK _ _ ?_; clear hK K
  refine Chain.nil ?_
  refine AW.seqR ?_
  refine Chain.runK [] 1 fun K hK => ?_; simp; refine hK _ _ ?_; clear hK K
  refine Chain.callX (d := 30) (by simp) rfl rfl (by simp <;> rfl) (by simp <;> rfl) ent37 (f37 txs) (by simp <;> rfl) ?_
  rw [hc]
  refine Chain.runK [] 1 fun K hK => ?_; simp; refine hK _ _ ?_; clear hK K
  refine Chain.nil ?_
  refine AW.seq ?_
  refine AW.seqR ?_
  refine Chain.runK [] 1 fun K hK => ?_; simp; refine hK _ _ ?_; clear hK K
  refine Chain.callX (d := 32) (by simp) rfl rfl (by simp <;> rfl) (by simp [htk] <;> rfl) ent38 (f38 txs) (by simp <;> rfl) ?_
  rw [hc]
  refine Chain.runK [] 7 fun K hK => ?_; simp; refine hK _ _ ?_; clear hK K
  refine Chain.nil ?_
  refine AW.condK fun K1 K2 k1 k2 => ?_; simp; refine k2 ?_; clear k1 k2 K1 K2
  refine AW.skip ?_
  refine AW.seq ?_
  refine AW.goR [] 2 fun K hK => ?_; simp; refine hK _ ?_; clear hK K
  refine AW.condK fun K1 K2 k1 k2 => ?_; simp; refine k2 ?_; clear k1 k2 K1 K2
  refine AW.skip ?_
  refine AW.sub (S' := mk 97 [] [(0, eV txs), (1, eV i), (2, eV k), (8, .d (.lit (.bool (adepB txs i k)))), (9, .d (.lit (.int .i64 (adepE txs i k)))), (10, .ref 26 0 txs.length)] [(26, some (.arr 4 1 ((admTo txs txs.length).map eC)))]) (Sub.table (by simp) (by simp)) ?_
  have hw : IntKind.i64.wrap ((txs.length : Int) - 1) = (txs.length : Int) - 1 := wrap_i64 (by omega) (by omega)
  refine AW.seq ?_
  refine AW.cutR (mk 97 [] [(0, eV txs), (1, eV i), (2, eV k), (8, .d (.lit (.bool (adepB txs i k)))), (9, .d (.lit (.int .i64 (adepE txs i k)))), (10, .ref 26 0 txs.length), (72, .d (.lit (.bool (badIK txs.length i k))))] [(26, some (.arr 4 1 ((admTo txs txs.length).map eC)))]) ?_ ?_
  · rw [badIK_btw]
    refine Chain.runK [] 4 fun K hK => ?_; simp [hw]; refine hK _ _ ?_; clear hK K
    refine Chain.callX (d := 58) (by simp) rfl rfl (by simp <;> rfl) (by simp <;> rfl) ent39 (f39 i 0 _) (by simp <;> rfl) ?_
    cases btw i 0 ((txs.length : Int) - 1) with
    | false => refine Chain.runK [] 14 fun K hK => ?_; simp; exact hK _ _ (Chain.nil (Sub.table (by simp) (by simp)))
    | true =>
      refine Chain.runK [] 6 fun K hK => ?_; simp [hw]; refine hK _ _ ?_; clear hK K
      refine Chain.callX (d := 65) (by simp) rfl rfl (by simp <;> rfl) (by simp <;> rfl) ent39 (f39 k 0 _) (by simp <;> rfl) ?_
      cases btw k 0 ((txs.length : Int) - 1) with
      | false => refine Chain.runK [] 7 fun K hK => ?_; simp; exact hK _ _ (Chain.nil (Sub.table (by simp) (by simp)))
      | true => refine Chain.runK [] 7 fun K hK => ?_; simp; exact hK _ _ (Chain.nil (Sub.table (by simp) (by simp)))
  cases hb : badIK txs.length i k with
  | true =>
    have eB : adepB txs i k = false := by unfold adepB; rw [if_pos hc, if_pos hb]
    have eE : adepE txs i k = 1 := by unfold adepE; rw [if_pos hc, if_pos hb]
    rw [eB, eE]
    refine AW.condK fun K1 K2 k1 k2 => ?_; simp; refine k1 ?_; clear k1 k2 K1 K2
    refine AW.goR [] 5 fun K hK => ?_; simp; refine hK _ ?_; clear hK K
    refine AW.condK fun K1 K2 k1 k2 => ?_; simp; refine k2 ?_; clear k1 k2 K1 K2
    refine AW.skip ?_
    refine AW.seqR ?_
    refine Chain.runK [] 2 fun K hK => ?_; simp; refine hK _ _ ?_; clear hK K
    refine Chain.call (d := 95) (by simp) rfl rfl (by simp <;> rfl) (by simp <;> rfl) ent42 (f42 txs hsm) rfl (.inl ⟨rfl, rfl⟩) ?_
    rintro r kk ⟨id2, rfl, rfl⟩
    have hta : List.take txs.length ((admTo txs txs.length).map eC) = (admTo txs txs.length).map eC := List.take_of_length_le (by simp [admTo_length])
    have htb : List.take txs.length ((refAdm txs txs.length).map eC) = (refAdm txs txs.length).map eC := List.take_of_length_le (by simp [refAdm_length])
    refine Chain.callX (d := 96) (by simp) rfl rfl (by simp <;> rfl) (by simp [hta, htb, admTo_length, refAdm_length] <;> rfl) ent41 (f41 (admTo txs txs.length) (refAdm txs txs.length)) (by simp <;> rfl) ?_
    refine Chain.runK [] 1 fun K hK => ?_; simp; refine hK _ _ ?_; clear hK K
    refine Chain.nil ?_
    refine AW.ret ?_; try simp only [thenQ, blockQ]
    refine Fin.ret fun K hK => ?_; simp; exact hK _ (.inl ⟨rfl, by rw [decide_eq_true (admit_same txs)]⟩)
  | false =>
    have hbb := hb
    unfold badIK at hbb
    simp only [Bool.or_eq_false_iff, decide_eq_false_iff_not, beq_eq_false_iff_ne] at hbb
    obtain ⟨h1, h2, h3, h4, h5⟩ := hbb
    obtain ⟨a, rfl⟩ := Int.eq_ofNat_of_zero_le (show 0 ≤ i by omega)
    obtain ⟨b, rfl⟩ := Int.eq_ofNat_of_zero_le (show 0 ≤ k by omega)
    obtain ⟨x, hx⟩ := getAt (show a < txs.length by omega)
    obtain ⟨y, hy⟩ := getAt (show b < txs.length by omega)
    have eB : adepB txs a b = antiB x y := by
      unfold adepB antiT
      rw [if_pos hc, if_neg (by simp [hb]), Int.toNat_natCast, Int.toNat_natCast, getD_of hx, getD_of hy]
    have eE : adepE txs a b = 0 := by unfold adepE; rw [if_pos hc, if_neg (by simp [hb])]
    rw [eB, eE]
    refine AW.condK fun K1 K2 k1 k2 => ?_; simp; refine k2 ?_; clear k1 k2 K1 K2
    refine AW.seqQ (by kernel_rfl) (by kernel_rfl) ?_
    refine Chain.runQ 12 fun K hK => ?_; simp [hx, hy]; refine hK _ _ ?_; clear hK K
    refine Chain.callX (d := 90) (by simp) rfl rfl (by simp <;> rfl) (by simp <;> rfl) ent40 (f40 x y) (by simp <;> rfl) ?_
    refine Chain.runQ 2 fun K hK => ?_; simp; refine hK _ _ ?_; clear hK K
    refine Chain.nil ?_
    refine AW.condK fun K1 K2 k1 k2 => ?_; simp; refine k2 ?_; clear k1 k2 K1 K2
    refine AW.skip ?_
    refine AW.seqR ?_
    refine Chain.runK [] 2 fun K hK => ?_; simp; refine hK _ _ ?_; clear hK K
    refine Chain.call (d := 95) (by simp) rfl rfl (by simp <;> rfl) (by simp <;> rfl) ent42 (f42 txs hsm) rfl (.inl ⟨rfl, rfl⟩) ?_
    rintro r kk ⟨id2, rfl, rfl⟩
    have hta : List.take txs.length ((admTo txs txs.length).map eC) = (admTo txs txs.length).map eC := List.take_of_length_le (by simp [admTo_length])
    have htb : List.take txs.length ((refAdm txs txs.length).map eC) = (refAdm txs txs.length).map eC := List.take_of_length_le (by simp [refAdm_length])
    refine Chain.callX (d := 96) (by simp) rfl rfl (by simp <;> rfl) (by simp [hta, htb, admTo_length, refAdm_length] <;> rfl) ent41 (f41 (admTo txs txs.length) (refAdm txs txs.length)) (by simp <;> rfl) ?_
    refine Chain.runK [] 1 fun K hK => ?_; simp; refine hK _ _ ?_; clear hK K
    refine Chain.nil ?_
    refine AW.ret ?_; try simp only [thenQ, blockQ]
    refine Fin.ret fun K hK => ?_; simp; exact hK _ (.inl ⟨rfl, by rw [decide_eq_true (admit_same txs)]⟩)
end Go.Proofs.Ytabjbkdlacibjaa
