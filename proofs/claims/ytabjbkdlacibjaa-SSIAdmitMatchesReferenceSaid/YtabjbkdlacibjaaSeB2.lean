/- writeConflict, dangerous. -/
import Derived.Test.YtabjbkdlacibjaaSeB1
namespace Go.Proofs.Ytabjbkdlacibjaa
open Go.Ab Go.Rp
open Go.Ab.Enc (eC eV)

theorem getD_of {α : Type} {xs : List α} {k : Nat} {x d : α} (hx : xs[k]? = some x) : xs.getD k d = x := by simp [List.getD, hx]

set_option maxHeartbeats 1000000 in
theorem f66 (txs : List Tx) (adm : List Bool) (i : Nat) (hi : i < txs.length) (hl : adm.length = txs.length) : Fun Try.prog 66 [eV txs, eV adm, eV (i : Int)] (fun r _ => r = .d (.lit (.bool (wcTo txs adm i i)))) := by
  refine Fun.fin Try.func66 rfl (of_decide_eq_true rfl) ?_
  refine AW.len 0 rfl fun hla => ?_
  simp at hla
  refine AW.goR [] 1 fun K hK => ?_; simp; refine hK _ ?_; clear hK K
  refine AW.seq ?_
  refine AW.goR [] 2 fun K hK => ?_; simp; refine hK _ ?_; clear hK K
  refine AW.block ?_
  refine AW.forP i (fun k => mk 41 [] [(0, eV txs), (1, eV adm), (2, eV (i : Int)), (8, eV (i : Int)), (9, .d (.lit (.int .i64 k)))] []) (fun k => wcTo txs adm i k = false) (Sub.table (by simp) (by simp)) rfl fun k hk hp => ?_
  by_cases hlt : k < i
  · obtain ⟨x, hx⟩ := getAt (show k < txs.length by omega)
    obtain ⟨xi, hxi⟩ := getAt hi
    obtain ⟨q, hq⟩ := getAt (show k < adm.length by omega)
    have hw : IntKind.i64.wrap ((k : Int) + 1) = (k : Int) + 1 := wrap_i64 (by omega) (by omega)
    have ewc : wcB txs adm i k = (q && (concB x xi && meets x.writes xi.writes)) := by unfold wcB; rw [getD_of hx, getD_of hxi, getD_of hq]
    have hsucc : wcTo txs adm i (k + 1) = (wcTo txs adm i k || wcB txs adm i k) := rfl
    refine AW.goR [] 1 fun K hK => ?_; simp; refine hK _ ?_; clear hK K
    refine AW.seq (AW.condK fun K1 K2 k1 k2 => ?_); simp [hlt]; refine k1 ?_; clear k1 k2 K1 K2
    refine AW.skip ?_
    refine AW.seq (AW.block ?_)
    refine AW.goR [] 2 fun K hK => ?_; simp; refine hK _ ?_; clear hK K
    refine AW.cutQ (by kernel_rfl) (by kernel_rfl) (mk 41 [] [(0, eV txs), (1, eV adm), (2, eV (i : Int)), (8, eV (i : Int)), (9, .d (.lit (.int .i64 k))), (39, .d (.lit (.bool (wcB txs adm i k))))] []) ?_ ?_
    · rw [ewc]
      cases q with
      | false => refine Chain.runQ 28 fun K hK => ?_; simp [hq]; refine hK _ _ (Chain.nil (Sub.table (by simp) (by simp)))
      | true =>
        refine Chain.runQ 13 fun K hK => ?_; simp [hq, hx, hxi]; refine hK _ _ ?_; clear hK K
        refine Chain.callX (d := 25) (by simp) rfl rfl (by simp <;> rfl) (by simp <;> rfl) ent87 (f87 x xi) (by simp <;> rfl) ?_
        cases hc : concB x xi with
        | false => refine Chain.runQ 14 fun K hK => ?_; simp; refine hK _ _ (Chain.nil (Sub.table (by simp) (by simp)))
        | true =>
          refine Chain.runQ 12 fun K hK => ?_; simp [hx, hxi]; refine hK _ _ ?_; clear hK K
          refine Chain.callX (d := 38) (by simp) rfl rfl (by simp <;> rfl) (by simp <;> rfl) ent88 (f88 x.writes xi.writes) (by simp <;> rfl) ?_
          refine Chain.runQ 1 fun K hK => ?_; simp; refine hK _ _ (Chain.nil (Sub.table (by simp) (by simp)))
    · refine AW.condK fun K1 K2 k1 k2 => ?_; simp; refine ⟨fun h => k1 ?_, fun h => k2 ?_⟩ <;> clear k1 k2 K1 K2
      · refine AW.goR [] 1 fun K hK => ?_; simp; refine hK _ ?_; clear hK K
        refine AW.ret ?_; try simp only [thenQ, blockQ]
        refine Fin.ret fun K hK => ?_; simp; refine hK _ (.inl ⟨rfl, ?_⟩)
        rw [wcTo_mono (show wcTo txs adm i (k + 1) = true by rw [hsucc, h, Bool.or_true]) hlt]
      · refine AW.skip ?_
        refine AW.goE [] 2 fun K hK => ?_; simp [hw]; refine hK _ ?_; clear hK K
        exact ⟨hlt, by rw [hsucc, h, hp]; rfl, Sub.table (by simp) (by simp)⟩
  · have hki : k = i := by omega
    subst hki
    refine AW.goR [] 1 fun K hK => ?_; simp; refine hK _ ?_; clear hK K
    refine AW.seq (AW.condK fun K1 K2 k1 k2 => ?_); simp; refine k2 ?_; clear k1 k2 K1 K2
    refine AW.exit ?_; simp only [thenQ, blockQ, if_true]
    refine AW.goR [] 1 fun K hK => ?_; simp; refine hK _ ?_; clear hK K
    refine AW.ret ?_; try simp only [thenQ, blockQ]
    refine Fin.ret fun K hK => ?_; simp; refine hK _ (.inl ⟨rfl, ?_⟩)
    rw [hp]

set_option maxHeartbeats 2000000 in
theorem f67 (txs : List Tx) (adm : List Bool) (i : Nat) (hi : i < txs.length) (hl : adm.length = txs.length) : Fun Try.prog 67 [eV txs, eV adm, eV (i : Int)] (fun r _ => r = .d (.lit (.bool (dgTo txs adm i (i + 1))))) := by
  refine Fun.fin Try.func67 rfl (of_decide_eq_true rfl) ?_
  refine AW.len 0 rfl fun hla => ?_
  simp at hla
  have hwi : IntKind.i64.wrap ((i : Int) + 1) = (i : Int) + 1 := wrap_i64 (by omega) (by omega)
  refine AW.goR [] 1 fun K hK => ?_; simp; refine hK _ ?_; clear hK K
  refine AW.seq ?_
  refine AW.goR [] 3 fun K hK => ?_; simp [hwi]; refine hK _ ?_; clear hK K
  refine AW.block ?_
  refine AW.forP (i + 1) (fun p => mk 68 [] [(0, eV txs), (1, eV adm), (2, eV (i : Int)), (12, .d (.lit (.int .i64 ((i : Int) + 1)))), (13, .d (.lit (.int .i64 p)))] []) (fun p => dgTo txs adm i p = false) (Sub.table (by simp) (by simp)) rfl fun p hpi hp => ?_
  by_cases hlt : p < i + 1
  · obtain ⟨xp, hxp⟩ := getAt (show p < txs.length by omega)
    obtain ⟨qp, hqp⟩ := getAt (show p < adm.length by omega)
    have hlt' : (p : Int) < (i : Int) + 1 := by omega
    have hwp : IntKind.i64.wrap ((p : Int) + 1) = (p : Int) + 1 := wrap_i64 (by omega) (by omega)
    have hsucc : dgTo txs adm i (p + 1) = (dgTo txs adm i p || (inTo txs adm p (i + 1) && outTo txs adm p (i + 1))) := rfl
    refine AW.goR [] 1 fun K hK => ?_; simp; refine hK _ ?_; clear hK K
    refine AW.seq (AW.condK fun K1 K2 k1 k2 => ?_); simp [hlt']; refine k1 ?_; clear k1 k2 K1 K2
    refine AW.skip ?_
    refine AW.seq (AW.block ?_)
    refine AW.goR [] 2 fun K hK => ?_; simp; refine hK _ ?_; clear hK K
    refine AW.goR [] 2 fun K hK => ?_; simp; refine hK _ ?_; clear hK K
    refine AW.seq ?_
    refine AW.goR [] 3 fun K hK => ?_; simp [hwi]; refine hK _ ?_; clear hK K
    refine AW.block ?_
    refine AW.forN (i + 1) (fun k => mk 68 [] [(0, eV txs), (1, eV adm), (2, eV (i : Int)), (7, .d (.lit (.int .i64 p))), (8, .d (.lit (.bool (inTo txs adm p k)))), (9, .d (.lit (.bool (outTo txs adm p k)))), (12, .d (.lit (.int .i64 ((i : Int) + 1)))), (13, .d (.lit (.int .i64 p))), (17, .d (.lit (.int .i64 ((i : Int) + 1)))), (18, .d (.lit (.int .i64 k)))] []) (Sub.table (by simp [inTo, outTo]) (by simp)) fun k hk => ?_
    by_cases hlk : k < i + 1
    · obtain ⟨x, hx⟩ := getAt (show k < txs.length by omega)
      obtain ⟨q, hq⟩ := getAt (show k < adm.length by omega)
      have hlk' : (k : Int) < (i : Int) + 1 := by omega
      have hwk : IntKind.i64.wrap ((k : Int) + 1) = (k : Int) + 1 := wrap_i64 (by omega) (by omega)
      have eact : actB adm k p = (!(k == p) && (q && qp)) := by unfold actB; rw [getD_of hq, getD_of hqp]
      have ein : inTo txs adm p (k + 1) = (inTo txs adm p k || (actB adm k p && antiB x xp)) := by show (_ || _) = _; rw [getD_of hx, getD_of hxp]
      have eout : outTo txs adm p (k + 1) = (outTo txs adm p k || (actB adm k p && antiB xp x)) := by show (_ || _) = _; rw [getD_of hx, getD_of hxp]
      refine AW.goR [] 1 fun K hK => ?_; simp; refine hK _ ?_; clear hK K
      refine AW.seq (AW.condK fun K1 K2 k1 k2 => ?_); simp [hlk']; refine k1 ?_; clear k1 k2 K1 K2
      refine AW.skip ?_
      refine AW.seq (AW.block ?_)
      refine AW.goR [] 2 fun K hK => ?_; simp; refine hK _ ?_; clear hK K
      refine AW.seq ?_
      refine AW.cutR (mk 68 [] [(0, eV txs), (1, eV adm), (2, eV (i : Int)), (7, .d (.lit (.int .i64 p))), (8, .d (.lit (.bool (inTo txs adm p k)))), (9, .d (.lit (.bool (outTo txs adm p k)))), (10, .d (.lit (.int .i64 k))), (12, .d (.lit (.int .i64 ((i : Int) + 1)))), (13, .d (.lit (.int .i64 p))), (17, .d (.lit (.int .i64 ((i : Int) + 1)))), (18, .d (.lit (.int .i64 k))), (37, .d (.lit (.bool (!actB adm k p))))] []) ?_ ?_
      · rw [eact]
        by_cases hkp : k = p
        · refine Chain.runK [] 17 fun K hK => ?_; simp [hkp]; exact hK _ _ (Chain.nil (Sub.table (by simp [hkp]) (by simp)))
        · have hkp' : ((k : Int) == (p : Int)) = false := by rw [beq_eq_false_iff_ne]; omega
          cases q with
          | false => refine Chain.runK [] 17 fun K hK => ?_; simp [hkp', hq, hqp]; exact hK _ _ (Chain.nil (Sub.table (by simp) (by simp)))
          | true => refine Chain.runK [] 17 fun K hK => ?_; simp [hkp', hq, hqp]; exact hK _ _ (Chain.nil (Sub.table (by simp [hkp]) (by simp)))
      · cases hact : actB adm k p with
        | false =>
          refine AW.condK fun K1 K2 k1 k2 => ?_; simp; refine k1 ?_; clear k1 k2 K1 K2
          refine AW.exit ?_; simp only [thenQ, blockQ, if_true]
          refine AW.goE [] 2 fun K hK => ?_; simp [hwk]; refine hK _ ?_; clear hK K
          exact ⟨hlk, Sub.table (by simp [ein, eout, hact]) (by simp)⟩
        | true =>
          rw [hact] at ein eout
          refine AW.condK fun K1 K2 k1 k2 => ?_; simp; refine k2 ?_; clear k1 k2 K1 K2
          refine AW.skip ?_
          refine AW.cutQ (by kernel_rfl) (by kernel_rfl) (mk 68 [] [(0, eV txs), (1, eV adm), (2, eV (i : Int)), (7, .d (.lit (.int .i64 p))), (8, .d (.lit (.bool (inTo txs adm p (k + 1))))), (9, .d (.lit (.bool (outTo txs adm p k)))), (10, .d (.lit (.int .i64 k))), (12, .d (.lit (.int .i64 ((i : Int) + 1)))), (13, .d (.lit (.int .i64 p))), (17, .d (.lit (.int .i64 ((i : Int) + 1)))), (18, .d (.lit (.int .i64 k)))] []) ?_ ?_
          · rw [ein]
            cases hin : inTo txs adm p k with
            | true => refine Chain.runQ 13 fun K hK => ?_; simp; exact hK _ _ (Chain.nil (Sub.table (by simp) (by simp)))
            | false =>
              refine Chain.runQ 10 fun K hK => ?_; simp [hx, hxp]; refine hK _ _ ?_; clear hK K
              refine Chain.callX (d := 48) (by simp) rfl rfl (by simp <;> rfl) (by simp <;> rfl) ent65 (f65 x xp) (by simp <;> rfl) ?_
              refine Chain.runQ 2 fun K hK => ?_; simp; exact hK _ _ (Chain.nil (Sub.table (by simp) (by simp)))
          · refine AW.endQ (by kernel_rfl) (by kernel_rfl) (mk 68 [] [(0, eV txs), (1, eV adm), (2, eV (i : Int)), (7, .d (.lit (.int .i64 p))), (8, .d (.lit (.bool (inTo txs adm p (k + 1))))), (9, .d (.lit (.bool (outTo txs adm p (k + 1))))), (12, .d (.lit (.int .i64 ((i : Int) + 1)))), (13, .d (.lit (.int .i64 p))), (17, .d (.lit (.int .i64 ((i : Int) + 1)))), (18, .d (.lit (.int .i64 k)))] []) ?_ ?_
            · rw [eout]
              cases hin : outTo txs adm p k with
              | true => refine Chain.runQ 13 fun K hK => ?_; simp; exact hK _ _ (Chain.nil (Sub.table (by simp) (by simp)))
              | false =>
                refine Chain.runQ 10 fun K hK => ?_; simp [hx, hxp]; refine hK _ _ ?_; clear hK K
                refine Chain.callX (d := 60) (by simp) rfl rfl (by simp <;> rfl) (by simp <;> rfl) ent65 (f65 xp x) (by simp <;> rfl) ?_
                refine Chain.runQ 2 fun K hK => ?_; simp; exact hK _ _ (Chain.nil (Sub.table (by simp) (by simp)))
            · intro S' hS
              refine AW.sub hS ?_
              refine AW.goE [] 2 fun K hK => ?_; simp [hwk]; refine hK _ ?_; clear hK K
              exact ⟨hlk, Sub.table (by simp) (by simp)⟩
    · have hki : k = i + 1 := by omega
      subst hki
      refine AW.goR [] 1 fun K hK => ?_; simp; refine hK _ ?_; clear hK K
      refine AW.seq (AW.condK fun K1 K2 k1 k2 => ?_); simp; refine k2 ?_; clear k1 k2 K1 K2
      refine AW.exit ?_; simp only [thenQ, blockQ, if_true]
      refine AW.cutR (mk 68 [] [(0, eV txs), (1, eV adm), (2, eV (i : Int)), (12, .d (.lit (.int .i64 ((i : Int) + 1)))), (13, .d (.lit (.int .i64 p))), (66, .d (.lit (.bool (inTo txs adm p (i + 1) && outTo txs adm p (i + 1)))))] []) ?_ ?_
      · cases inTo txs adm p (i + 1) <;>
        · refine Chain.runK [] 4 fun K hK => ?_; simp; exact hK _ _ (Chain.nil (Sub.table (by simp) (by simp)))
      · refine AW.condK fun K1 K2 k1 k2 => ?_; simp only [St.ev, mk_sl, tlook, if_true, condK]; refine ⟨fun h => k1 ?_, fun h => k2 ?_⟩ <;> clear k1 k2 K1 K2
        · refine AW.goR [] 1 fun K hK => ?_; simp; refine hK _ ?_; clear hK K
          refine AW.ret ?_; try simp only [thenQ, blockQ]
          refine Fin.ret fun K hK => ?_; simp; refine hK _ (.inl ⟨rfl, ?_⟩)
          rw [dgTo_mono (show dgTo txs adm i (p + 1) = true by rw [hsucc, h, Bool.or_true]) hlt]
        · refine AW.skip ?_
          refine AW.goE [] 2 fun K hK => ?_; simp [hwp]; refine hK _ ?_; clear hK K
          exact ⟨hlt, by rw [hsucc, h, hp]; rfl, Sub.table (by simp) (by simp)⟩
  · have hpp : p = i + 1 := by omega
    subst hpp
    refine AW.goR [] 1 fun K hK => ?_; simp; refine hK _ ?_; clear hK K
    refine AW.seq (AW.condK fun K1 K2 k1 k2 => ?_); simp; refine k2 ?_; clear k1 k2 K1 K2
    refine AW.exit ?_; simp only [thenQ, blockQ, if_true]
    refine AW.goR [] 1 fun K hK => ?_; simp; refine hK _ ?_; clear hK K
    refine AW.ret ?_; try simp only [thenQ, blockQ]
    refine Fin.ret fun K hK => ?_; simp; refine hK _ (.inl ⟨rfl, ?_⟩)
    rw [hp]
end Go.Proofs.Ytabjbkdlacibjaa
