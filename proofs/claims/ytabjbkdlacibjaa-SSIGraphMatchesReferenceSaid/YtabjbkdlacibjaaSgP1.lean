/- The functional programs of SSIGraph, small ones: what they yield. Plain lists. -/
import Derived.Test.YtabjbkdlacibjaaSg6
import Derived.Test.YtabjbkdlacibjaaAb34
namespace Go.Proofs.Ytabjbkdlacibjaa
open Go.Ab Go.Rp

abbrev Tx := S105
/-- lists in memory -/
def small {α : Type} (xs : List α) : Prop := xs.length < 9223372036854775807
theorem small.lt {α : Type} {xs : List α} (h : small xs) {N : Nat} (hN : bigN N) : xs.length < N := by
  unfold small at h
  exact Nat.lt_of_lt_of_le (Nat.lt_succ_of_lt h) hN

def meets (a b : List ByteArray) : Bool := a.any fun x => b.any fun y => decide (x = y)
theorem meets_comm (a b : List ByteArray) : meets a b = meets b a := by
  unfold meets
  rw [Bool.eq_iff_iff]
  simp only [List.any_eq_true, decide_eq_true_eq]
  exact ⟨fun ⟨x, h1, y, h2, h3⟩ => ⟨y, h2, x, h1, h3.symm⟩, fun ⟨x, h1, y, h2, h3⟩ => ⟨y, h2, x, h1, h3.symm⟩⟩

theorem d97_eq {N : Nat} (hN : bigN N) {xs : List ByteArray} (hs : small xs) (y : ByteArray) : d97 N xs y = some (optI (xs.findIdx? fun x => decide (y = x))) :=
  indexFunc_eq N xs (fun x => some (decide (y = x))) (fun x => decide (y = x)) (fun _ _ => rfl) (hs.lt hN) hs
theorem d95_eq {N : Nat} (hN : bigN N) {xs : List ByteArray} (hs : small xs) (y : ByteArray) : d95 N xs y = some (xs.any fun x => decide (y = x)) := by
  unfold d95
  rw [d97_eq hN hs, Option.bind_some, optI_ge]
theorem d94_eq {N : Nat} (hN : bigN N) {xs : List ByteArray} (hs : small xs) (y : ByteArray) : d94 N y xs = some (xs.any fun x => decide (y = x)) := by
  unfold d94
  rw [d95_eq hN hs, Option.bind_some]
theorem d88_eq {N : Nat} (hN : bigN N) {a b : List ByteArray} (ha : small a) (hb : small b) : d88 N a b = some (meets a b) := by
  have h96 : d96 N a (fun x => d94 N x b) = some (optI (a.findIdx? fun x => b.any fun y => decide (x = y))) :=
    indexFunc_eq N a (fun x => d94 N x b) (fun x => b.any fun y => decide (x = y)) (fun x _ => d94_eq hN hb x) (ha.lt hN) ha
  unfold d88 d93
  rw [h96]
  simp only [Option.bind_some]
  rw [optI_ge]
  rfl

def concB (a b : Tx) : Bool := decide (a.Start < b.Commit) && decide (b.Start < a.Commit)
def okTx (t : Tx) : Prop := small t.Reads ∧ small t.Writes
def antiB (a b : Tx) : Bool := concB a b && meets a.Reads b.Writes
def precB (a b : Tx) : Bool := antiB a b || (decide (a.Commit ≤ b.Start) && (meets a.Writes b.Reads || (meets a.Writes b.Writes || meets a.Reads b.Writes)))
theorem d87_eq (N : Nat) (a b : Tx) : d87 N a b = some (concB a b) := by
  unfold d87 concB
  by_cases h : a.Start < b.Commit <;> simp [h]
theorem d65_eq {N : Nat} (hN : bigN N) {a b : Tx} (ha : okTx a) (hb : okTx b) : d65 N a b = some (antiB a b) := by
  unfold d65 antiB
  rw [d87_eq]
  simp only [Option.bind_some]
  cases concB a b with
  | true => simp [d88_eq hN ha.1 hb.2]
  | false => simp
theorem d70_eq {N : Nat} (hN : bigN N) {a b : Tx} (ha : okTx a) (hb : okTx b) : d70 N a b = some (precB a b) := by
  unfold d70 precB
  rw [d65_eq hN ha hb]
  simp only [Option.bind_some, d88_eq hN ha.2 hb.1, d88_eq hN ha.2 hb.2, d88_eq hN ha.1 hb.2]
  cases antiB a b with
  | true => simp
  | false =>
    by_cases h : a.Commit ≤ b.Start
    · cases meets a.Writes b.Reads <;> cases meets a.Writes b.Writes <;> simp [h]
    · simp [h]
theorem d68_eq (N : Nat) (a b : Tx) : d68 N a b = some (concB a b) := by
  unfold d68
  have e : concB a b = (!decide (a.Commit ≤ b.Start) && !decide (b.Commit ≤ a.Start)) := by
    rw [Bool.eq_iff_iff]
    simp [concB]
    omega
  rw [e]
  by_cases h : a.Commit ≤ b.Start <;> simp [h]

/-- the set of a list's elements -/
def setM (xs : List ByteArray) (m : List (ByteArray × Bool)) : List (ByteArray × Bool) := foldI (fun _ x m => mput m x true) xs 0 m
theorem foldI_mput (xs : List ByteArray) : ∀ (k : Nat) (m : List (ByteArray × Bool)) (y : ByteArray), (mget (foldI (fun _ x m => mput m x true) xs k m) y).getD false = ((xs.any fun x => decide (x = y)) || (mget m y).getD false) := by
  induction xs with
  | nil => intro k m y; simp [foldI]
  | cons x xs ih =>
    intro k m y
    rw [foldI, ih, mget_put, List.any_cons]
    by_cases h : x = y
    · simp [h]
    · simp [h]
theorem d69_eq {N : Nat} (hN : bigN N) {a b : List ByteArray} (ha : small a) (hb : small b) : d69 N a b = some (meets a b) := by
  unfold d69
  have h1 := iter_list a (fun (m : List (ByteArray × Bool)) (v : Int) => (m, v)) (fun ((m5, v6) : ((List (ByteArray × Bool)) × Int)) =>
      if v6 < (a.length : Int) then (idx a v6).bind fun x19 => (chkI (v6 + 1)).bind fun v21 => some (.inl ((mput m5 x19 true), v21)) else some (.inr m5))
    (fun _ x m => .inl (mput m x true)) (fun m => m) (fun k x s hx hk => ?_) (fun s => ?_) (ha.lt hN) []
  · rw [h1, listFor_fold]
    simp only [Option.bind_some]
    have h2 := iter_list b (fun (_ : Unit) (v : Int) => v) (fun (v28 : Int) =>
        if v28 < (b.length : Int) then (idx b v28).bind fun x43 => letv ((mget (foldI (fun _ x m => mput m x true) a 0 []) x43).getD false) fun v45 => if v45 = true then some (.inr (.ret true)) else (chkI (v28 + 1)).bind fun v47 => some (.inl v47) else some (.inr (.go () : Out Unit Bool)))
      (fun _ x (_ : Unit) => if (a.any fun y => decide (y = x)) = true then .inr (.ret true) else .inl ()) (fun _ => .go ()) (fun k x s hx hk => ?_) (fun s => ?_) (hb.lt hN) ()
    · rw [h2]
      have key : ∀ (b : List ByteArray) (k : Nat), listFor (fun _ x (_ : Unit) => if (a.any fun y => decide (y = x)) = true then .inr (.ret true) else .inl ()) (fun _ => (.go () : Out Unit Bool)) b k () = if meets b a = true then .ret true else .go () := by
        intro b
        induction b with
        | nil => intro k; rfl
        | cons x b ih =>
          intro k
          rw [listFor]
          have e : meets (x :: b) a = ((a.any fun y => decide (y = x)) || meets b a) := by
            unfold meets
            rw [List.any_cons]
            congr 2
            funext y
            exact decide_eq_decide.2 ⟨Eq.symm, Eq.symm⟩
          rw [e]
          cases a.any fun y => decide (y = x) with
          | true => simp
          | false => simp [ih]
      rw [key, meets_comm a b]
      cases meets b a <;> simp
    · have hlt : (k : Int) < (b.length : Int) := by omega
      rw [if_pos hlt, idx_nat hx]
      unfold small at hb
      simp only [Option.bind_some, letv_eq]
      rw [foldI_mput]
      simp only [mget_nil, Option.getD_none, Bool.or_false]
      cases a.any fun y => decide (y = x) with
      | true => simp
      | false => simp [chkI_of (show (-9223372036854775808 : Int) ≤ (k : Int) + 1 by omega) (show (k : Int) + 1 ≤ 9223372036854775807 by omega)]
    · simp
  · have hlt : (k : Int) < (a.length : Int) := by omega
    unfold small at ha
    simp only []
    rw [if_pos hlt, idx_nat hx]
    simp [chkI_of (show (-9223372036854775808 : Int) ≤ (k : Int) + 1 by omega) (show (k : Int) + 1 ≤ 9223372036854775807 by omega)]
  · simp
theorem d40_eq {N : Nat} (hN : bigN N) {a b : Tx} (ha : okTx a) (hb : okTx b) : d40 N a b = some (antiB a b) := by
  unfold d40 antiB
  rw [d68_eq]
  simp only [Option.bind_some]
  cases concB a b with
  | true => simp [d69_eq hN hb.2 ha.1, meets_comm a.Reads]
  | false => simp
theorem d45_eq {N : Nat} (hN : bigN N) {a b : Tx} (ha : okTx a) (hb : okTx b) : d45 N a b = some (precB a b) := by
  unfold d45 precB
  rw [d40_eq hN ha hb]
  simp only [Option.bind_some, d69_eq hN ha.2 hb.1, d69_eq hN ha.2 hb.2, d69_eq hN ha.1 hb.2]
  cases antiB a b with
  | true => simp
  | false =>
    by_cases h : a.Commit ≤ b.Start
    · cases meets a.Writes b.Reads <;> cases meets a.Writes b.Writes <;> simp [h]
    · simp [h]
end Go.Proofs.Ytabjbkdlacibjaa
