/- Small functions on lists of strings and transactions. -/
import Derived.Test.YtabjbkdlacibjaaTy
namespace Go.Proofs.Ytabjbkdlacibjaa
open Go.Ab Go.Rp
open Go.Ab.Enc (eC eV)

def optI : Option Nat → Int
  | some i => i
  | none => -1
theorem find_first {α : Type} {p : α → Bool} {xs : List α} {k : Nat} {x : α} (hx : xs[k]? = some x) (hp : p x = true) (hn : ∀ j, j < k → ∀ z, xs[j]? = some z → p z = false) : xs.findIdx? p = some k := by
  obtain ⟨hk, rfl⟩ := List.getElem?_eq_some_iff.1 hx
  rw [List.findIdx?_eq_some_iff_getElem]
  exact ⟨hk, hp, fun j hj => by have := hn j hj xs[j] (List.getElem?_eq_getElem (by omega)); simp [this]⟩
theorem find_none {α : Type} {p : α → Bool} {xs : List α} (hn : ∀ j, j < xs.length → ∀ z, xs[j]? = some z → p z = false) : xs.findIdx? p = none := by
  rw [List.findIdx?_eq_none_iff]
  intro x hx
  obtain ⟨i, hi, rfl⟩ := List.getElem_of_mem hx
  exact hn i hi _ (List.getElem?_eq_getElem hi)
theorem optI_ge {α : Type} {p : α → Bool} {xs : List α} : decide (optI (xs.findIdx? p) ≥ 0) = xs.any p := by
  rw [← List.findIdx?_isSome]
  cases xs.findIdx? p with
  | none => rfl
  | some i => simp [optI]
theorem upto_succ {α : Type} {p : α → Bool} {xs : List α} {k : Nat} {x : α} (hx : xs[k]? = some x) (hp : p x = false) (hn : ∀ j, j < k → ∀ z, xs[j]? = some z → p z = false) : ∀ j, j < k + 1 → ∀ z, xs[j]? = some z → p z = false := fun j hj z hz => by
  rcases Nat.lt_or_ge j k with h' | h'
  · exact hn j h' z hz
  · have : j = k := by omega
    subst this
    rw [hx] at hz
    injection hz with hz
    rw [← hz]; exact hp
theorem getAt {α : Type} {xs : List α} {k : Nat} (h : k < xs.length) : ∃ x, xs[k]? = some x := ⟨xs[k], List.getElem?_eq_getElem h⟩


/-- slices.Index on strings -/
theorem f97 (xs : List ByteArray) (y : ByteArray) : Fun Try.prog 97 [eV xs, eV y] (fun r _ => r = .d (.lit (.int .i64 (optI (xs.findIdx? fun x => decide (y = x)))))) := by
  refine Fun.fin Try.func97 rfl (of_decide_eq_true rfl) ?_
  refine AW.len 0 rfl fun hlen => ?_
  simp at hlen
  refine AW.goR [] 1 fun K hK => ?_; simp; refine hK _ ?_; clear hK K
  refine AW.seq ?_
  refine AW.goR [] 3 fun K hK => ?_; simp; refine hK _ ?_; clear hK K
  refine AW.block ?_
  refine AW.forP xs.length (fun k => mk 19 [] [(0, eV xs), (1, eV y), (7, .d (.lit (.int .i64 xs.length))), (8, .d (.lit (.int .i64 k)))] []) (fun k => ∀ j, j < k → ∀ z, xs[j]? = some z → decide (y = z) = false) (Sub.table (by simp) (by simp)) (fun j hj => by omega) fun k hk hp => ?_
  by_cases hlt : k < xs.length
  · obtain ⟨x, hx⟩ := getAt hlt
    have hw : IntKind.i64.wrap ((k : Int) + 1) = (k : Int) + 1 := wrap_i64 (by omega) (by omega)
    refine AW.goR [] 1 fun K hK => ?_; simp; refine hK _ ?_; clear hK K
    refine AW.seq (AW.condK fun K1 K2 k1 k2 => ?_); simp [hlt]; refine k1 ?_; clear k1 k2 K1 K2
    refine AW.skip ?_
    refine AW.seq (AW.block ?_)
    refine AW.goR [] 2 fun K hK => ?_; simp; refine hK _ ?_; clear hK K
    refine AW.goR [] 6 fun K hK => ?_; simp [hx]; refine hK _ ?_; clear hK K
    refine AW.condK fun K1 K2 k1 k2 => ?_; simp; refine ⟨fun h => k1 ?_, fun h => k2 ?_⟩ <;> clear k1 k2 K1 K2
    · refine AW.goR [] 2 fun K hK => ?_; simp; refine hK _ ?_; clear hK K
      refine AW.ret ?_; try simp only [thenQ, blockQ]
      refine Fin.ret fun K hK => ?_; simp; refine hK _ (.inl ⟨rfl, ?_⟩)
      rw [find_first hx (by simp [h]) hp]; rfl
    · refine AW.skip ?_
      refine AW.goE [] 2 fun K hK => ?_; simp [hw]; refine hK _ ?_; clear hK K
      refine ⟨hlt, upto_succ hx (by simp [h]) hp, Sub.table (by simp) (by simp)⟩
  · have hkk : k = xs.length := by omega
    subst hkk
    refine AW.goR [] 1 fun K hK => ?_; simp; refine hK _ ?_; clear hK K
    refine AW.seq (AW.condK fun K1 K2 k1 k2 => ?_); simp; refine k2 ?_; clear k1 k2 K1 K2
    refine AW.exit ?_; simp only [thenQ, blockQ, if_true]
    refine AW.goR [] 1 fun K hK => ?_; simp; refine hK _ ?_; clear hK K
    refine AW.ret ?_; try simp only [thenQ, blockQ]
    refine Fin.ret fun K hK => ?_; simp; refine hK _ (.inl ⟨rfl, ?_⟩)
    rw [find_none hp]; rfl

/-- slices.IndexFunc on strings -/
theorem f96 (xs : List ByteArray) (g : Nat) (cs : List D) (p : ByteArray → Bool) (he : Enters Try.prog g) (hg : ∀ x, Fun Try.prog g (eV x :: cs.map .d) (fun r _ => r = .d (.lit (.bool (p x))))) : Fun Try.prog 96 [eV xs, .fn (.func g) (cs.map .d)] (fun r _ => r = .d (.lit (.int .i64 (optI (xs.findIdx? p))))) := by
  refine Fun.fin Try.func96 rfl (of_decide_eq_true rfl) ?_
  refine AW.len 0 rfl fun hlen => ?_
  simp at hlen
  refine AW.goR [] 1 fun K hK => ?_; simp; refine hK _ ?_; clear hK K
  refine AW.seq ?_
  refine AW.goR [] 3 fun K hK => ?_; simp; refine hK _ ?_; clear hK K
  refine AW.block ?_
  refine AW.forP xs.length (fun k => mk 19 [] [(0, eV xs), (1, .fn (.func g) (cs.map .d)), (7, .d (.lit (.int .i64 xs.length))), (8, .d (.lit (.int .i64 k)))] []) (fun k => ∀ j, j < k → ∀ z, xs[j]? = some z → p z = false) (Sub.table (by simp) (by simp)) (fun j hj => by omega) fun k hk hp => ?_
  by_cases hlt : k < xs.length
  · obtain ⟨x, hx⟩ := getAt hlt
    have hw : IntKind.i64.wrap ((k : Int) + 1) = (k : Int) + 1 := wrap_i64 (by omega) (by omega)
    refine AW.goR [] 1 fun K hK => ?_; simp; refine hK _ ?_; clear hK K
    refine AW.seq (AW.condK fun K1 K2 k1 k2 => ?_); simp [hlt]; refine k1 ?_; clear k1 k2 K1 K2
    refine AW.skip ?_
    refine AW.seq (AW.block ?_)
    refine AW.goR [] 2 fun K hK => ?_; simp; refine hK _ ?_; clear hK K
    refine AW.seqR ?_
    refine Chain.runK [] 5 fun K hK => ?_; simp [hx]; refine hK _ _ ?_; clear hK K
    refine Chain.callX (d := 16) (by simp) rfl rfl (by simp <;> rfl) (by simp <;> rfl) he (hg x) (by simp <;> rfl) ?_
    refine Chain.nil ?_
    refine AW.condK fun K1 K2 k1 k2 => ?_; simp; refine ⟨fun h => k1 ?_, fun h => k2 ?_⟩ <;> clear k1 k2 K1 K2
    · refine AW.goR [] 2 fun K hK => ?_; simp; refine hK _ ?_; clear hK K
      refine AW.ret ?_; try simp only [thenQ, blockQ]
      refine Fin.ret fun K hK => ?_; simp; refine hK _ (.inl ⟨rfl, ?_⟩)
      rw [find_first hx h hp]; rfl
    · refine AW.skip ?_
      refine AW.goE [] 2 fun K hK => ?_; simp [hw]; refine hK _ ?_; clear hK K
      refine ⟨hlt, upto_succ hx h hp, Sub.table (by simp) (by simp)⟩
  · have hkk : k = xs.length := by omega
    subst hkk
    refine AW.goR [] 1 fun K hK => ?_; simp; refine hK _ ?_; clear hK K
    refine AW.seq (AW.condK fun K1 K2 k1 k2 => ?_); simp; refine k2 ?_; clear k1 k2 K1 K2
    refine AW.exit ?_; simp only [thenQ, blockQ, if_true]
    refine AW.goR [] 1 fun K hK => ?_; simp; refine hK _ ?_; clear hK K
    refine AW.ret ?_; try simp only [thenQ, blockQ]
    refine Fin.ret fun K hK => ?_; simp; refine hK _ (.inl ⟨rfl, ?_⟩)
    rw [find_none hp]; rfl

/-- slices.Contains, slices.ContainsFunc on strings -/
theorem f95 (xs : List ByteArray) (y : ByteArray) : Fun Try.prog 95 [eV xs, eV y] (fun r _ => r = .d (.lit (.bool (xs.any fun x => decide (y = x))))) := by
  refine Fun.fin Try.func95 rfl (of_decide_eq_true rfl) ?_
  refine AW.goR [] 1 fun K hK => ?_; simp; refine hK _ ?_; clear hK K
  refine AW.seqR ?_
  refine Chain.runK [] 2 fun K hK => ?_; simp; refine hK _ _ ?_; clear hK K
  refine Chain.callX (d := 7) (by simp) rfl rfl (by simp <;> rfl) (by simp <;> rfl) ent97 (f97 xs y) (by simp <;> rfl) ?_
  refine Chain.runK [] 2 fun K hK => ?_; simp; refine hK _ _ ?_; clear hK K
  refine Chain.nil (AW.ret ?_); try simp only [thenQ, blockQ]
  refine Fin.ret fun K hK => ?_; simp; refine hK _ (.inl ⟨rfl, ?_⟩)
  rw [← optI_ge]
theorem f93 (xs : List ByteArray) (g : Nat) (cs : List D) (p : ByteArray → Bool) (he : Enters Try.prog g) (hg : ∀ x, Fun Try.prog g (eV x :: cs.map .d) (fun r _ => r = .d (.lit (.bool (p x))))) : Fun Try.prog 93 [eV xs, .fn (.func g) (cs.map .d)] (fun r _ => r = .d (.lit (.bool (xs.any p)))) := by
  refine Fun.fin Try.func93 rfl (of_decide_eq_true rfl) ?_
  refine AW.goR [] 1 fun K hK => ?_; simp; refine hK _ ?_; clear hK K
  refine AW.seqR ?_
  refine Chain.runK [] 2 fun K hK => ?_; simp; refine hK _ _ ?_; clear hK K
  refine Chain.callX (d := 7) (by simp) rfl rfl (by simp <;> rfl) (by simp <;> rfl) ent96 (f96 xs g cs p he hg) (by simp <;> rfl) ?_
  refine Chain.runK [] 2 fun K hK => ?_; simp; refine hK _ _ ?_; clear hK K
  refine Chain.nil (AW.ret ?_); try simp only [thenQ, blockQ]
  refine Fin.ret fun K hK => ?_; simp; refine hK _ (.inl ⟨rfl, ?_⟩)
  rw [← optI_ge]

/-- do two lists have an element in common -/
def meets (a b : List ByteArray) : Bool := a.any fun x => b.any fun y => decide (x = y)

theorem f94 (b : List ByteArray) (x : ByteArray) : Fun Try.prog 94 [eV x, .d (.pim [.sl (b.map eC)])] (fun r _ => r = .d (.lit (.bool (b.any fun y => decide (x = y))))) := by
  refine Fun.fin Try.func94 rfl (of_decide_eq_true rfl) ?_
  refine AW.goR [] 1 fun K hK => ?_; simp; refine hK _ ?_; clear hK K
  refine AW.seqR ?_
  refine Chain.runK [] 2 fun K hK => ?_; simp; refine hK _ _ ?_; clear hK K
  refine Chain.callX (d := 6) (by simp) rfl rfl (by simp <;> rfl) (by simp <;> rfl) ent95 (f95 b x) (by simp <;> rfl) ?_
  refine Chain.runK [] 1 fun K hK => ?_; simp; refine hK _ _ ?_; clear hK K
  refine Chain.nil (AW.ret ?_); try simp only [thenQ, blockQ]
  refine Fin.ret fun K hK => ?_; simp; refine hK _ (.inl ⟨rfl, rfl⟩)
theorem f88 (a b : List ByteArray) : Fun Try.prog 88 [eV a, eV b] (fun r _ => r = .d (.lit (.bool (meets a b)))) := by
  refine Fun.fin Try.func88 rfl (of_decide_eq_true rfl) ?_
  refine AW.goR [] 2 fun K hK => ?_; simp; refine hK _ ?_; clear hK K
  refine AW.seqR ?_
  refine Chain.runK [] 2 fun K hK => ?_; simp; refine hK _ _ ?_; clear hK K
  refine Chain.callX (d := 7) (by simp) rfl rfl (by simp <;> rfl) (by simp <;> rfl) ent93 (f93 a 94 [.pim [.sl (b.map eC)]] (fun x => b.any fun y => decide (x = y)) ent94 (fun x => f94 b x)) (by simp <;> rfl) ?_
  refine Chain.runK [] 1 fun K hK => ?_; simp; refine hK _ _ ?_; clear hK K
  refine Chain.nil (AW.ret ?_); try simp only [thenQ, blockQ]
  refine Fin.ret fun K hK => ?_; simp; refine hK _ (.inl ⟨rfl, rfl⟩)
end Go.Proofs.Ytabjbkdlacibjaa
