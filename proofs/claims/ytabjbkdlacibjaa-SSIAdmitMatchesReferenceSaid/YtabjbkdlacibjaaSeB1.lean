/- Check of transactions, in the program and in the reference; concurrency, antidependency. -/
import Derived.Test.YtabjbkdlacibjaaSeLaw
namespace Go.Proofs.Ytabjbkdlacibjaa
open Go.Ab Go.Rp
open Go.Ab.Enc (eC eV)

theorem f87 (a b : Tx) : Fun Try.prog 87 [eV a, eV b] (fun r _ => r = .d (.lit (.bool (concB a b)))) := by
  refine Fun.fin Try.func87 rfl (of_decide_eq_true rfl) ?_
  refine AW.goR [] 3 fun K hK => ?_; simp; refine hK _ ?_; clear hK K
  by_cases h1 : a.start < b.commit <;>
  · refine AW.goR [] 13 fun K hK => ?_; simp [h1]; refine hK _ ?_; clear hK K
    refine AW.ret ?_; try simp only [thenQ, blockQ]
    refine Fin.ret fun K hK => ?_; simp; refine hK _ (.inl ⟨rfl, ?_⟩)
    simp [concB, h1]
theorem f68 (a b : Tx) : Fun Try.prog 68 [eV a, eV b] (fun r _ => r = .d (.lit (.bool (concB a b)))) := by
  refine Fun.fin Try.func68 rfl (of_decide_eq_true rfl) ?_
  refine AW.goR [] 3 fun K hK => ?_; simp; refine hK _ ?_; clear hK K
  by_cases h1 : a.commit ≤ b.start <;>
  · refine AW.goR [] 15 fun K hK => ?_; simp [h1]; refine hK _ ?_; clear hK K
    refine AW.ret ?_; try simp only [thenQ, blockQ]
    refine Fin.ret fun K hK => ?_; simp; refine hK _ (.inl ⟨rfl, ?_⟩)
    have e : concB a b = (!decide (a.commit ≤ b.start) && !decide (b.commit ≤ a.start)) := by
      rw [Bool.eq_iff_iff]
      simp [concB]
      omega
    simp [e, h1]
theorem f65 (a b : Tx) : Fun Try.prog 65 [eV a, eV b] (fun r _ => r = .d (.lit (.bool (antiB a b)))) := by
  refine Fun.fin Try.func65 rfl (of_decide_eq_true rfl) ?_
  refine AW.goR [] 3 fun K hK => ?_; simp; refine hK _ ?_; clear hK K
  refine AW.seqR ?_
  refine Chain.runK [] 2 fun K hK => ?_; simp; refine hK _ _ ?_; clear hK K
  refine Chain.callX (d := 7) (by simp) rfl rfl (by simp <;> rfl) (by simp <;> rfl) ent87 (f87 a b) (by simp <;> rfl) ?_
  cases hc : concB a b with
  | true =>
    refine Chain.runK [] 5 fun K hK => ?_; simp; refine hK _ _ ?_; clear hK K
    refine Chain.callX (d := 13) (by simp) rfl rfl (by simp <;> rfl) (by simp <;> rfl) ent88 (f88 a.reads b.writes) (by simp <;> rfl) ?_
    refine Chain.runK [] 2 fun K hK => ?_; simp; refine hK _ _ ?_; clear hK K
    refine Chain.nil (AW.ret ?_); try simp only [thenQ, blockQ]
    refine Fin.ret fun K hK => ?_; simp; refine hK _ (.inl ⟨rfl, ?_⟩)
    simp [antiB, hc]
  | false =>
    refine Chain.runK [] 8 fun K hK => ?_; simp; refine hK _ _ ?_; clear hK K
    refine Chain.nil (AW.ret ?_); try simp only [thenQ, blockQ]
    refine Fin.ret fun K hK => ?_; simp; refine hK _ (.inl ⟨rfl, ?_⟩)
    simp [antiB, hc]

/-- the map of a list's elements -/
def setM (xs : List ByteArray) : List (MKey × V) := xs.foldl (fun l x => kput l (.sk x) (.d (.lit (.bool true)))) []
theorem setM_take {xs : List ByteArray} {k : Nat} {x : ByteArray} (hx : xs[k]? = some x) : setM (xs.take (k + 1)) = kput (setM (xs.take k)) (.sk x) (.d (.lit (.bool true))) := by
  obtain ⟨hk, rfl⟩ := List.getElem?_eq_some_iff.1 hx
  unfold setM
  rw [List.take_succ_eq_append_getElem hk, List.foldl_append]
  rfl
theorem klk_setM (y : ByteArray) (xs : List ByteArray) : klk (setM xs) (.sk y) = if (xs.any fun x => decide (y = x)) = true then some (.d (.lit (.bool true))) else none := by
  have key : ∀ (xs : List ByteArray) (l : List (MKey × V)), klk (xs.foldl (fun l x => kput l (.sk x) (.d (.lit (.bool true)))) l) (.sk y) = if (xs.any fun x => decide (y = x)) = true then some (.d (.lit (.bool true))) else klk l (.sk y) := by
    intro xs
    induction xs with
    | nil => intro l; rfl
    | cons x xs ih =>
      intro l
      rw [List.foldl_cons, ih, klk_put]
      simp only [List.any_cons, MKey.sk.injEq]
      have e3 : ∀ q : Bool, (if q = true then some (V.d (D.lit (Value.bool true))) else if x = y then some (V.d (D.lit (Value.bool true))) else klk l (MKey.sk y)) = if (decide (y = x) || q) = true then some (V.d (D.lit (Value.bool true))) else klk l (MKey.sk y) := by
        intro q
        by_cases h2 : y = x
        · subst h2; simp
        · have : ¬ x = y := fun e => h2 e.symm
          simp [h2, this]
      exact e3 _
  exact key xs []

theorem any_upto {α : Type} {p : α → Bool} {xs : List α} (hn : ∀ j, j < xs.length → ∀ z, xs[j]? = some z → p z = false) : xs.any p = false := by
  rw [List.any_eq_false]
  intro x hx
  obtain ⟨i, hi, rfl⟩ := List.getElem_of_mem hx
  simp [hn i hi _ (List.getElem?_eq_getElem hi)]
theorem any_at {α : Type} {p : α → Bool} {xs : List α} {k : Nat} {x : α} (hx : xs[k]? = some x) (h : p x = true) : xs.any p = true := List.any_eq_true.2 ⟨x, List.mem_of_getElem? hx, h⟩

set_option maxHeartbeats 400000 in
theorem f69 (a b : List ByteArray) : Fun Try.prog 69 [eV a, eV b] (fun r _ => r = .d (.lit (.bool (meets a b)))) := by
  refine Fun.fin Try.func69 rfl (of_decide_eq_true rfl) ?_
  refine AW.len 0 rfl fun hla => ?_
  refine AW.len 1 rfl fun hlb => ?_
  simp at hla hlb
  refine AW.goR [] 1 fun K hK => ?_; simp; refine hK _ ?_; clear hK K
  refine AW.seqR ?_
  refine Chain.mmake (d := 10) .string (by simp) rfl rfl (by simp) ?_
  refine Chain.runK [] 1 fun K hK => ?_; simp; refine hK _ _ (Chain.nil ?_); clear hK K
  refine AW.seq ?_
  refine AW.goR [] 3 fun K hK => ?_; simp; refine hK _ ?_; clear hK K
  refine AW.block ?_
  refine AW.forN a.length (fun k => mk 30 [] [(1, eV b), (5, .mref 10), (11, eV a), (12, .d (.lit (.int .i64 a.length))), (13, .d (.lit (.int .i64 k)))] [(10, some (.mp .string (setM (a.take k))))]) (Sub.table (by simp) (by simp [setM])) fun k hk => ?_
  by_cases hlt : k < a.length
  · obtain ⟨x, hx⟩ := getAt hlt
    have hw : IntKind.i64.wrap ((k : Int) + 1) = (k : Int) + 1 := wrap_i64 (by omega) (by omega)
    refine AW.goR [] 1 fun K hK => ?_; simp; refine hK _ ?_; clear hK K
    refine AW.seq (AW.condK fun K1 K2 k1 k2 => ?_); simp [hlt]; refine k1 ?_; clear k1 k2 K1 K2
    refine AW.skip ?_
    refine AW.seq (AW.block ?_)
    refine AW.goR [] 3 fun K hK => ?_; simp [hx]; refine hK _ ?_; clear hK K
    refine AW.region ?_
    refine Chain.runK [] 2 fun K hK => ?_; simp; refine hK _ _ ?_; clear hK K
    refine Chain.mset (by simp) (.inl rfl) ty117 rfl ty9 rfl (by simp <;> rfl) (by simp <;> rfl) (by simp <;> rfl) rfl (by simp <;> rfl) (by simp) ?_
    refine Chain.nil ?_
    refine AW.goE [] 2 fun K hK => ?_; simp [hw]; refine hK _ ?_; clear hK K
    exact ⟨hlt, Sub.table (by simp) (by simp [setM_take hx])⟩
  · have hkk : k = a.length := by omega
    subst hkk
    refine AW.goR [] 1 fun K hK => ?_; simp; refine hK _ ?_; clear hK K
    refine AW.seq (AW.condK fun K1 K2 k1 k2 => ?_); simp; refine k2 ?_; clear k1 k2 K1 K2
    refine AW.exit ?_; simp only [thenQ, blockQ, if_true]
    refine AW.seq ?_
    refine AW.goR [] 3 fun K hK => ?_; simp; refine hK _ ?_; clear hK K
    refine AW.block ?_
    refine AW.forP b.length (fun k => mk 30 [] [(5, .mref 10), (20, eV b), (21, .d (.lit (.int .i64 b.length))), (22, .d (.lit (.int .i64 k)))] [(10, some (.mp .string (setM a)))]) (fun k => ∀ j, j < k → ∀ z, b[j]? = some z → (a.any fun x => decide (z = x)) = false) (Sub.table (by simp) (by simp)) (fun j hj => by omega) fun k hk hp => ?_
    by_cases hlt : k < b.length
    · obtain ⟨x, hx⟩ := getAt hlt
      have hw : IntKind.i64.wrap ((k : Int) + 1) = (k : Int) + 1 := wrap_i64 (by omega) (by omega)
      refine AW.goR [] 1 fun K hK => ?_; simp; refine hK _ ?_; clear hK K
      refine AW.seq (AW.condK fun K1 K2 k1 k2 => ?_); simp [hlt]; refine k1 ?_; clear k1 k2 K1 K2
      refine AW.skip ?_
      refine AW.seq (AW.block ?_)
      refine AW.goR [] 3 fun K hK => ?_; simp [hx]; refine hK _ ?_; clear hK K
      refine AW.seqR ?_
      refine Chain.runK [] 2 fun K hK => ?_; simp; refine hK _ _ ?_; clear hK K
      cases hin : a.any fun y => decide (x = y) with
      | true =>
        refine Chain.look (r := .d (.lit (.bool true))) (b := true) (by simp) rfl (by simp [klk_setM, hin, MKey.desc]) ?_
        refine Chain.nil ?_
        refine AW.condK fun K1 K2 k1 k2 => ?_; simp; refine k1 ?_; clear k1 k2 K1 K2
        refine AW.goR [] 1 fun K hK => ?_; simp; refine hK _ ?_; clear hK K
        refine AW.ret ?_; try simp only [thenQ, blockQ]
        refine Fin.ret fun K hK => ?_; simp; refine hK _ (.inl ⟨rfl, ?_⟩)
        rw [meets_comm, meets, any_at hx hin]
      | false =>
        refine Chain.look (r := .d (.lit (.bool false))) (b := false) (by simp) rfl (by simp [klk_setM, hin, MKey.desc]) ?_
        refine Chain.nil ?_
        refine AW.condK fun K1 K2 k1 k2 => ?_; simp; refine k2 ?_; clear k1 k2 K1 K2
        refine AW.skip ?_
        refine AW.goE [] 2 fun K hK => ?_; simp [hw]; refine hK _ ?_; clear hK K
        exact ⟨hlt, upto_succ hx hin hp, Sub.table (by simp) (by simp)⟩
    · have hkk : k = b.length := by omega
      subst hkk
      refine AW.goR [] 1 fun K hK => ?_; simp; refine hK _ ?_; clear hK K
      refine AW.seq (AW.condK fun K1 K2 k1 k2 => ?_); simp; refine k2 ?_; clear k1 k2 K1 K2
      refine AW.exit ?_; simp only [thenQ, blockQ, if_true]
      refine AW.goR [] 1 fun K hK => ?_; simp; refine hK _ ?_; clear hK K
      refine AW.ret ?_; try simp only [thenQ, blockQ]
      refine Fin.ret fun K hK => ?_; simp; refine hK _ (.inl ⟨rfl, ?_⟩)
      rw [meets_comm, meets, any_upto hp]

theorem f40 (a b : Tx) : Fun Try.prog 40 [eV a, eV b] (fun r _ => r = .d (.lit (.bool (antiB a b)))) := by
  refine Fun.fin Try.func40 rfl (of_decide_eq_true rfl) ?_
  refine AW.goR [] 3 fun K hK => ?_; simp; refine hK _ ?_; clear hK K
  refine AW.seqR ?_
  refine Chain.runK [] 2 fun K hK => ?_; simp; refine hK _ _ ?_; clear hK K
  refine Chain.callX (d := 7) (by simp) rfl rfl (by simp <;> rfl) (by simp <;> rfl) ent68 (f68 a b) (by simp <;> rfl) ?_
  cases hc : concB a b with
  | true =>
    refine Chain.runK [] 5 fun K hK => ?_; simp; refine hK _ _ ?_; clear hK K
    refine Chain.callX (d := 13) (by simp) rfl rfl (by simp <;> rfl) (by simp <;> rfl) ent69 (f69 b.writes a.reads) (by simp <;> rfl) ?_
    refine Chain.runK [] 2 fun K hK => ?_; simp; refine hK _ _ ?_; clear hK K
    refine Chain.nil (AW.ret ?_); try simp only [thenQ, blockQ]
    refine Fin.ret fun K hK => ?_; simp; refine hK _ (.inl ⟨rfl, ?_⟩)
    simp [antiB, hc, meets_comm]
  | false =>
    refine Chain.runK [] 8 fun K hK => ?_; simp; refine hK _ _ ?_; clear hK K
    refine Chain.nil (AW.ret ?_); try simp only [thenQ, blockQ]
    refine Fin.ret fun K hK => ?_; simp; refine hK _ (.inl ⟨rfl, ?_⟩)
    simp [antiB, hc]
end Go.Proofs.Ytabjbkdlacibjaa
