/- The plain law of SSI admission: the program's admission is the reference's. Plain lists, no program. -/
import Derived.Test.YtabjbkdlacibjaaSeA1
namespace Go.Proofs.Ytabjbkdlacibjaa
open Go.Ab Go.Rp
open Go.Ab.Enc (eC eV)

abbrev Tx := Rp.St (Int × Int × List ByteArray × List ByteArray × Unit)
def Tx.start (t : Tx) : Int := t.val.1
def Tx.commit (t : Tx) : Int := t.val.2.1
def Tx.reads (t : Tx) : List ByteArray := t.val.2.2.1
def Tx.writes (t : Tx) : List ByteArray := t.val.2.2.2.1
@[simp] theorem eC_tx (t : Tx) : (eC t : List D) = [.lit (.int .i64 t.start), .lit (.int .i64 t.commit), .sl (t.reads.map eC), .sl (t.writes.map eC)] := rfl
@[simp] theorem eV_tx (t : Tx) : eV t = .agg [.d (.lit (.int .i64 t.start)), .d (.lit (.int .i64 t.commit)), .d (.sl (t.reads.map eC)), .d (.sl (t.writes.map eC))] := rfl

theorem meets_comm (a b : List ByteArray) : meets a b = meets b a := by
  unfold meets
  rw [Bool.eq_iff_iff]
  simp only [List.any_eq_true, decide_eq_true_eq]
  exact ⟨fun ⟨x, h1, y, h2, h3⟩ => ⟨y, h2, x, h1, h3.symm⟩, fun ⟨x, h1, y, h2, h3⟩ => ⟨y, h2, x, h1, h3.symm⟩⟩
def concB (a b : Tx) : Bool := decide (a.start < b.commit) && decide (b.start < a.commit)
def antiB (a b : Tx) : Bool := concB a b && meets a.reads b.writes
theorem concB_comm (a b : Tx) : concB a b = concB b a := Bool.and_comm _ _
def tx0 : Tx := ⟨(0, 0, [], [], ())⟩
def wcB (txs : List Tx) (adm : List Bool) (i k : Nat) : Bool := adm.getD k false && (concB (txs.getD k tx0) (txs.getD i tx0) && meets (txs.getD k tx0).writes (txs.getD i tx0).writes)
def wcTo (txs : List Tx) (adm : List Bool) (i : Nat) : Nat → Bool
  | 0 => false
  | k + 1 => wcTo txs adm i k || wcB txs adm i k

theorem wcTo_mono {txs : List Tx} {adm : List Bool} {i : Nat} : ∀ {k n : Nat}, wcTo txs adm i k = true → k ≤ n → wcTo txs adm i n = true := by
  intro k n h hkn
  induction hkn with
  | refl => exact h
  | step _ ih => show (_ || _) = true; rw [ih]; rfl

def actB (adm : List Bool) (k p : Nat) : Bool := !(k == p) && (adm.getD k false && adm.getD p false)
def inTo (txs : List Tx) (adm : List Bool) (p : Nat) : Nat → Bool
  | 0 => false
  | k + 1 => inTo txs adm p k || (actB adm k p && antiB (txs.getD k tx0) (txs.getD p tx0))
def outTo (txs : List Tx) (adm : List Bool) (p : Nat) : Nat → Bool
  | 0 => false
  | k + 1 => outTo txs adm p k || (actB adm k p && antiB (txs.getD p tx0) (txs.getD k tx0))
def dgTo (txs : List Tx) (adm : List Bool) (i : Nat) : Nat → Bool
  | 0 => false
  | p + 1 => dgTo txs adm i p || (inTo txs adm p (i + 1) && outTo txs adm p (i + 1))
theorem dgTo_mono {txs : List Tx} {adm : List Bool} {i : Nat} : ∀ {k n : Nat}, dgTo txs adm i k = true → k ≤ n → dgTo txs adm i n = true := by
  intro k n h hkn
  induction hkn with
  | refl => exact h
  | step _ ih => show (_ || _) = true; rw [ih]; rfl

def badLen (t : Tx) : Bool := decide (12 < t.reads.length) || decide (12 < t.writes.length)
def badTime (t : Tx) : Bool := decide (t.start < 0) || (decide (1099511627776 < t.commit) || decide (t.commit ≤ t.start))
def chk : Int → List Tx → Int
  | _, [] => 0
  | last, t :: r => if badLen t = true then 2 else if badTime t = true then 1 else if t.commit ≤ last then 6 else chk t.commit r
def checkT (txs : List Tx) : Int := if 40 < txs.length then 2 else chk (-1) txs

def admStep (txs : List Tx) (adm : List Bool) (i : Nat) : List Bool :=
  (adm.set i true).set i (!wcTo txs (adm.set i true) i i && !dgTo txs (adm.set i true) i (i + 1))
def admTo (txs : List Tx) : Nat → List Bool
  | 0 => List.replicate txs.length false
  | i + 1 => admStep txs (admTo txs i) i
theorem admTo_length (txs : List Tx) : ∀ n, (admTo txs n).length = txs.length := by
  intro n
  induction n with
  | zero => simp [admTo]
  | succ n ih => simp [admTo, admStep, ih]
def admitT (txs : List Tx) : List Bool := if checkT txs = 0 then admTo txs txs.length else []

theorem checkT_small {txs : List Tx} (h : checkT txs = 0) : txs.length ≤ 40 := by
  unfold checkT at h
  by_cases hb : 40 < txs.length
  · rw [if_pos hb] at h; omega
  · omega

theorem wcTo_iff {txs : List Tx} {adm : List Bool} {i : Nat} : ∀ {n : Nat}, wcTo txs adm i n = true ↔ ∃ k, k < n ∧ wcB txs adm i k = true
  | 0 => by simp [wcTo]
  | n + 1 => by
    show (wcTo txs adm i n || wcB txs adm i n) = true ↔ _
    rw [Bool.or_eq_true, wcTo_iff]
    constructor
    · rintro (⟨k, h, h'⟩ | h)
      · exact ⟨k, by omega, h'⟩
      · exact ⟨n, by omega, h⟩
    · rintro ⟨k, h, h'⟩
      rcases Nat.lt_or_ge k n with hk | hk
      · exact .inl ⟨k, hk, h'⟩
      · have : k = n := by omega
        subst this; exact .inr h'
theorem inTo_iff {txs : List Tx} {adm : List Bool} {p : Nat} : ∀ {n : Nat}, inTo txs adm p n = true ↔ ∃ k, k < n ∧ (actB adm k p && antiB (txs.getD k tx0) (txs.getD p tx0)) = true
  | 0 => by simp [inTo]
  | n + 1 => by
    show (inTo txs adm p n || _) = true ↔ _
    rw [Bool.or_eq_true, inTo_iff]
    constructor
    · rintro (⟨k, h, h'⟩ | h)
      · exact ⟨k, by omega, h'⟩
      · exact ⟨n, by omega, h⟩
    · rintro ⟨k, h, h'⟩
      rcases Nat.lt_or_ge k n with hk | hk
      · exact .inl ⟨k, hk, h'⟩
      · have : k = n := by omega
        subst this; exact .inr h'
theorem outTo_iff {txs : List Tx} {adm : List Bool} {p : Nat} : ∀ {n : Nat}, outTo txs adm p n = true ↔ ∃ k, k < n ∧ (actB adm k p && antiB (txs.getD p tx0) (txs.getD k tx0)) = true
  | 0 => by simp [outTo]
  | n + 1 => by
    show (outTo txs adm p n || _) = true ↔ _
    rw [Bool.or_eq_true, outTo_iff]
    constructor
    · rintro (⟨k, h, h'⟩ | h)
      · exact ⟨k, by omega, h'⟩
      · exact ⟨n, by omega, h⟩
    · rintro ⟨k, h, h'⟩
      rcases Nat.lt_or_ge k n with hk | hk
      · exact .inl ⟨k, hk, h'⟩
      · have : k = n := by omega
        subst this; exact .inr h'
theorem dgTo_iff {txs : List Tx} {adm : List Bool} {i : Nat} : ∀ {n : Nat}, dgTo txs adm i n = true ↔ ∃ p, p < n ∧ (inTo txs adm p (i + 1) && outTo txs adm p (i + 1)) = true
  | 0 => by simp [dgTo]
  | n + 1 => by
    show (dgTo txs adm i n || _) = true ↔ _
    rw [Bool.or_eq_true, dgTo_iff]
    constructor
    · rintro (⟨k, h, h'⟩ | h)
      · exact ⟨k, by omega, h'⟩
      · exact ⟨n, by omega, h⟩
    · rintro ⟨k, h, h'⟩
      rcases Nat.lt_or_ge k n with hk | hk
      · exact .inl ⟨k, hk, h'⟩
      · have : k = n := by omega
        subst this; exact .inr h'

/-- the members so far: i first, then those admitted among the first k -/
def memb (adm : List Bool) (i k : Nat) : List Nat := i :: (List.range k).filter (fun j => adm.getD j false)
def wcR1 (txs : List Tx) (i j : Nat) : Bool := concB (txs.getD i tx0) (txs.getD j tx0) && meets (txs.getD i tx0).writes (txs.getD j tx0).writes
def wcR (txs : List Tx) (adm : List Bool) (i k : Nat) : Bool := (List.range k).any fun j => adm.getD j false && wcR1 txs i j
def tri (txs : List Tx) (a p o : Nat) : Bool := !(a == p) && (!(p == o) && (antiB (txs.getD a tx0) (txs.getD p tx0) && antiB (txs.getD p tx0) (txs.getD o tx0)))
def triOut (txs : List Tx) (ms : List Nat) (a p : Nat) : Bool := ms.any fun o => tri txs a p o
def triPiv (txs : List Tx) (ms : List Nat) (a : Nat) : Bool := ms.any fun p => triOut txs ms a p
def triIn (txs : List Tx) (ms : List Nat) : Bool := ms.any fun a => triPiv txs ms a
def okR (txs : List Tx) (adm : List Bool) (i : Nat) : Bool := !wcR txs adm i i && !triIn txs (memb adm i i)
def refAdm (txs : List Tx) : Nat → List Bool
  | 0 => []
  | n + 1 => refAdm txs n ++ [okR txs (refAdm txs n) n]
theorem refAdm_length (txs : List Tx) : ∀ n, (refAdm txs n).length = n
  | 0 => rfl
  | n + 1 => by simp [refAdm, refAdm_length txs n]

theorem mem_memb {adm : List Bool} {i x : Nat} : x ∈ memb adm i i ↔ x = i ∨ (x < i ∧ adm.getD x false = true) := by
  simp [memb]

theorem wc_same (txs : List Tx) (xs ys : List Bool) (n : Nat) (h : ∀ k, k < n → xs.getD k false = ys.getD k false) : wcTo txs (xs.set n true) n n = wcR txs ys n n := by
  rw [Bool.eq_iff_iff, wcTo_iff]
  unfold wcR
  rw [List.any_eq_true]
  have hs : ∀ k, k < n → (xs.set n true).getD k false = ys.getD k false := fun k hk => by
    rw [← h k hk]; simp [List.getD, List.getElem?_set_ne (show n ≠ k by omega)]
  constructor
  · rintro ⟨k, hk, hw⟩
    refine ⟨k, by simpa using hk, ?_⟩
    unfold wcB at hw
    rw [hs k hk, concB_comm, meets_comm] at hw
    exact hw
  · rintro ⟨k, hk, hw⟩
    have hk' : k < n := by simpa using hk
    refine ⟨k, hk', ?_⟩
    unfold wcB
    rw [hs k hk', concB_comm, meets_comm]
    exact hw

theorem dg_same (txs : List Tx) (xs ys : List Bool) (n : Nat) (hn : n < xs.length) (h : ∀ k, k < n → xs.getD k false = ys.getD k false) : dgTo txs (xs.set n true) n (n + 1) = triIn txs (memb ys n n) := by
  have hs : ∀ k, (k < n + 1 ∧ (xs.set n true).getD k false = true) ↔ k ∈ memb ys n n := fun k => by
    rw [mem_memb]
    rcases Nat.lt_trichotomy k n with hk | hk | hk
    · have e : (xs.set n true).getD k false = ys.getD k false := by rw [← h k hk]; simp [List.getD, List.getElem?_set_ne (show n ≠ k by omega)]
      rw [e]
      constructor
      · rintro ⟨_, h2⟩; exact .inr ⟨hk, h2⟩
      · rintro (h2 | ⟨_, h2⟩)
        · omega
        · exact ⟨by omega, h2⟩
    · subst hk
      exact ⟨fun _ => .inl rfl, fun _ => ⟨by omega, by simp [List.getD, hn]⟩⟩
    · constructor
      · rintro ⟨h1, _⟩; omega
      · rintro (h2 | ⟨h2, _⟩) <;> omega
  rw [Bool.eq_iff_iff, dgTo_iff]
  unfold triIn triPiv triOut
  simp only [List.any_eq_true]
  simp only [Bool.and_eq_true, inTo_iff, outTo_iff, actB, Bool.not_eq_true', beq_eq_false_iff_ne, tri]
  constructor
  · rintro ⟨p, hp, ⟨a, ha, ⟨h1, h2, h3⟩, h4⟩, ⟨o, ho, ⟨h5, h6, h7⟩, h8⟩⟩
    exact ⟨a, (hs a).1 ⟨ha, h2⟩, p, (hs p).1 ⟨hp, h3⟩, o, (hs o).1 ⟨ho, h6⟩, h1, fun e => h5 e.symm, h4, h8⟩
  · rintro ⟨a, ha, p, hp, o, ho, h1, h5, h4, h8⟩
    have ha := (hs a).2 ha
    have hp := (hs p).2 hp
    have ho := (hs o).2 ho
    exact ⟨p, hp.1, ⟨a, ha.1, ⟨h1, ha.2, hp.2⟩, h4⟩, ⟨o, ho.1, ⟨fun e => h5 e.symm, ho.2, hp.2⟩, h8⟩⟩

theorem adm_same (txs : List Tx) : ∀ n, n ≤ txs.length → (admTo txs n).take n = refAdm txs n
  | 0, _ => by simp [refAdm]
  | n + 1, hn => by
    have ih := adm_same txs n (by omega)
    have hl := admTo_length txs n
    have hk : ∀ k, k < n → (admTo txs n).getD k false = (refAdm txs n).getD k false := fun k hk => by
      rw [← ih]; simp [List.getD, List.getElem?_take_of_lt hk]
    show (admStep txs (admTo txs n) n).take (n + 1) = refAdm txs n ++ [okR txs (refAdm txs n) n]
    unfold admStep okR
    rw [wc_same txs _ _ n hk, dg_same txs _ _ n (by omega) hk, List.set_set, List.take_succ_eq_append_getElem (by simp; omega), List.take_set_of_le (Nat.le_refl _), ih]
    simp

theorem admit_same (txs : List Tx) : admTo txs txs.length = refAdm txs txs.length := by
  rw [← adm_same txs _ (Nat.le_refl _), List.take_of_length_le (by rw [admTo_length]; omega)]
end Go.Proofs.Ytabjbkdlacibjaa
