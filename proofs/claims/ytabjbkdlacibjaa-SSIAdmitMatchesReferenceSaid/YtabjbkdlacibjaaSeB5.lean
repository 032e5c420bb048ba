/- ssi.Antidependency, the known case. -/
import Derived.Test.YtabjbkdlacibjaaSeB4
namespace Go.Proofs.Ytabjbkdlacibjaa
open Go.Ab Go.Rp
open Go.Ab.Enc (eC eV)
attribute [-simp] List.all_eq_true Array.all_toList Array.all_eq_true

def badIK (n : Nat) (i k : Int) : Bool := decide (i < 0) || (decide ((n : Int) ≤ i) || (decide (k < 0) || (decide ((n : Int) ≤ k) || (i == k))))
def antiT (txs : List Tx) (i k : Int) : Bool := antiB (txs.getD i.toNat tx0) (txs.getD k.toNat tx0)
def adepB (txs : List Tx) (i k : Int) : Bool := if checkT txs = 0 then (if badIK txs.length i k = true then false else antiT txs i k) else false
def adepE (txs : List Tx) (i k : Int) : Int := if checkT txs = 0 then (if badIK txs.length i k = true then 1 else 0) else checkT txs

set_option maxHeartbeats 1000000 in
theorem f35 (txs : List Tx) (i k : Int) : Fun Try.prog 35 [eV txs, eV i, eV k] (fun r _ => r = .tup [.d (.lit (.bool (adepB txs i k))), .d (.lit (.int .i64 (adepE txs i k)))]) := by
  refine Fun.fin Try.func35 rfl (of_decide_eq_true rfl) ?_
  refine AW.len 0 rfl fun hla => ?_
  simp at hla
  refine AW.goR [] 2 fun K hK => ?_; simp; refine hK _ ?_; clear hK K
  refine AW.seq ?_
  refine AW.seqR ?_
  refine Chain.runK [] 1 fun K hK => ?_; simp; refine hK _ _ ?_; clear hK K
  refine Chain.callX (d := 10) (by simp) rfl rfl (by simp <;> rfl) (by simp <;> rfl) ent38 (f38 txs) (by simp <;> rfl) ?_
  refine Chain.runK [] 1 fun K hK => ?_; simp; refine hK _ _ ?_; clear hK K
  refine Chain.nil ?_
  refine AW.goR [] 2 fun K hK => ?_; simp; refine hK _ ?_; clear hK K
  by_cases hc : checkT txs = 0
  case neg =>
    refine AW.condK fun K1 K2 k1 k2 => ?_; simp [hc]; refine k1 ?_; clear k1 k2 K1 K2
    refine AW.goR [] 3 fun K hK => ?_; simp; refine hK _ ?_; clear hK K
    refine AW.ret ?_; try simp only [thenQ, blockQ]
    refine Fin.ret fun K hK => ?_; simp; refine hK _ (.inl ⟨rfl, ?_⟩)
    unfold adepB adepE
    rw [if_neg hc, if_neg hc]
  refine AW.condK fun K1 K2 k1 k2 => ?_; simp [hc]; refine k2 ?_; clear k1 k2 K1 K2
  refine AW.skip ?_
  refine AW.seq ?_
  refine AW.cutR (mk 46 [] [(0, eV txs), (1, eV i), (2, eV k), (36, .d (.lit (.bool (badIK txs.length i k))))] []) ?_ ?_
  · unfold badIK
    by_cases h1 : i < 0
    · refine Chain.runK [] 23 fun K hK => ?_; simp [h1]; exact hK _ _ (Chain.nil (Sub.table (by simp [h1]) (by simp)))
    by_cases h2 : (txs.length : Int) ≤ i
    · refine Chain.runK [] 23 fun K hK => ?_; simp [h1, h2]; exact hK _ _ (Chain.nil (Sub.table (by simp [h1, h2]) (by simp)))
    by_cases h3 : k < 0
    · refine Chain.runK [] 23 fun K hK => ?_; simp [h1, h2, h3]; exact hK _ _ (Chain.nil (Sub.table (by simp [h1, h2, h3]) (by simp)))
    by_cases h4 : (txs.length : Int) ≤ k
    · refine Chain.runK [] 23 fun K hK => ?_; simp [h1, h2, h3, h4]; exact hK _ _ (Chain.nil (Sub.table (by simp [h1, h2, h3, h4]) (by simp)))
    · refine Chain.runK [] 23 fun K hK => ?_; simp [h1, h2, h3, h4]; exact hK _ _ (Chain.nil (Sub.table (by simp [h1, h2, h3, h4]) (by simp)))
  · refine AW.condK fun K1 K2 k1 k2 => ?_; simp; refine ⟨fun h => k1 ?_, fun h => k2 ?_⟩ <;> clear k1 k2 K1 K2
    · refine AW.goR [] 2 fun K hK => ?_; simp; refine hK _ ?_; clear hK K
      refine AW.ret ?_; try simp only [thenQ, blockQ]
      refine Fin.ret fun K hK => ?_; simp; refine hK _ (.inl ⟨rfl, ?_⟩)
      unfold adepB adepE
      rw [if_pos hc, if_pos hc, if_pos h, if_pos h]
    · refine AW.skip ?_
      have hb := h
      unfold badIK at h
      simp only [Bool.or_eq_false_iff, decide_eq_false_iff_not, beq_eq_false_iff_ne] at h
      obtain ⟨h1, h2, h3, h4, h5⟩ := h
      obtain ⟨a, rfl⟩ := Int.eq_ofNat_of_zero_le (show 0 ≤ i by omega)
      obtain ⟨b, rfl⟩ := Int.eq_ofNat_of_zero_le (show 0 ≤ k by omega)
      obtain ⟨x, hx⟩ := getAt (show a < txs.length by omega)
      obtain ⟨y, hy⟩ := getAt (show b < txs.length by omega)
      refine AW.seqQ (by kernel_rfl) (by kernel_rfl) ?_
      refine Chain.runQ 8 fun K hK => ?_; simp [hx, hy]; refine hK _ _ ?_; clear hK K
      refine Chain.callX (d := 45) (by simp) rfl rfl (by simp <;> rfl) (by simp <;> rfl) ent65 (f65 x y) (by simp <;> rfl) ?_
      refine Chain.runQ 2 fun K hK => ?_; simp; refine hK _ _ ?_; clear hK K
      refine Chain.nil ?_
      refine AW.ret ?_; try simp only [thenQ, blockQ]
      refine Fin.ret fun K hK => ?_; simp; refine hK _ (.inl ⟨rfl, ?_⟩)
      unfold adepB adepE antiT
      rw [if_pos hc, if_pos hc, if_neg (by simp [hb]), if_neg (by simp [hb]), Int.toNat_natCast, Int.toNat_natCast, getD_of hx, getD_of hy]

def kx : ByteArray := ⟨#[120]⟩
def ky : ByteArray := ⟨#[121]⟩
def skew : List Tx := [⟨(0, 5, [kx], [ky], ())⟩, ⟨(1, 6, [ky], [kx], ())⟩]
theorem skew_check : checkT skew = 0 := by decide
theorem skew_adm : admTo skew 2 = [true, false] := by decide

theorem skew36 : Fun Try.prog 36 [eV skew] (fun r k => ∃ id, r = .tup [.ref id 0 2, .d (.lit (.int .i64 0))] ∧ k = some (.arr 4 1 [[.lit (.bool true)], [.lit (.bool false)]])) := by
  refine (f36 skew).mono ?_
  rintro r k (⟨_, id, hr, hk⟩ | ⟨h, _⟩)
  · refine ⟨id, hr, ?_⟩
    rw [hk]
    show some (Blk.arr 4 1 ((admTo skew 2).map eC)) = _
    rw [skew_adm]; rfl
  · exact absurd skew_check h

set_option maxHeartbeats 1000000 in
theorem f33 : Fun Try.prog 33 [] (fun r _ => r = .d (.lit (.bool true))) := by
  refine Fun.fin Try.func33 rfl (of_decide_eq_true rfl) ?_
  refine AW.goR [] 1 fun K hK => ?_; simp; refine hK _ ?_; clear hK K
  refine AW.seqR ?_
  refine Chain.runK [4, 5, 7, 8, 10] 7 fun K hK => ?_; simp; refine hK _ _ ?_; clear hK K
  refine Chain.call (d := 11) (by simp) rfl rfl (by simp <;> rfl) (by simp <;> rfl) ent36 skew36 rfl (.inr ?_) ?_
  · rintro r k ⟨id, rfl, rfl⟩
    exact ⟨rfl, by rintro _ ⟨⟩; simp⟩
  rintro r k ⟨id, rfl, rfl⟩
  refine Chain.runK [] 5 fun K hK => ?_; simp; refine hK _ _ ?_; clear hK K
  refine Chain.nil ?_
  refine AW.seqR ?_
  refine Chain.runK [18] 5 fun K hK => ?_; simp; refine hK _ _ ?_; clear hK K
  refine Chain.callX (d := 19) (by simp) rfl rfl (by simp <;> rfl) (by simp <;> rfl) ent41 (f41 [true, false] [true, false]) (by simp <;> rfl) ?_
  refine Chain.runK [] 2 fun K hK => ?_; simp; refine hK _ _ ?_; clear hK K
  refine Chain.nil ?_
  refine AW.ret ?_; try simp only [thenQ, blockQ]
  refine Fin.ret fun K hK => ?_; simp; exact hK _ (.inl ⟨rfl, rfl⟩)

end Go.Proofs.Ytabjbkdlacibjaa
