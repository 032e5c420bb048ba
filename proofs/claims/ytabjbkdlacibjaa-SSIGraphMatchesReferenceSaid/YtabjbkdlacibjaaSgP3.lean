/- The functional programs of SSIGraph: the edges of the graph. Plain lists. -/
import Derived.Test.YtabjbkdlacibjaaSgP2
namespace Go.Proofs.Ytabjbkdlacibjaa
open Go.Ab Go.Rp

def tx0 : Tx := ⟨0, 0, [], []⟩
/-- i must precede k -/
def prE (txs : List Tx) (adm : List Bool) (i k : Nat) : Bool := !(i == k) && (adm.getD i false && (adm.getD k false && precB (txs.getD i tx0) (txs.getD k tx0)))
def row (txs : List Tx) (adm : List Bool) (i : Nat) : List S43 := ((List.range txs.length).filter (prE txs adm i)).map fun (k : Nat) => (⟨(i : Int), (k : Int)⟩ : S43)
def edgesTo (txs : List Tx) (adm : List Bool) : Nat → List S43
  | 0 => []
  | i + 1 => edgesTo txs adm i ++ row txs adm i
def nodesTo (adm : List Bool) : Nat → List Int
  | 0 => []
  | i + 1 => nodesTo adm i ++ (if adm.getD i false = true then [(i : Int)] else [])
theorem row_len (txs : List Tx) (adm : List Bool) (i : Nat) : (row txs adm i).length ≤ txs.length := by
  unfold row
  rw [List.length_map]
  have := List.length_filter_le (prE txs adm i) (List.range txs.length)
  simpa using this
theorem edgesTo_len (txs : List Tx) (adm : List Bool) : ∀ i, (edgesTo txs adm i).length ≤ i * txs.length
  | 0 => by simp [edgesTo]
  | i + 1 => by
    have := edgesTo_len txs adm i
    have := row_len txs adm i
    rw [edgesTo, List.length_append, Nat.add_mul]
    omega
theorem nodesTo_len (adm : List Bool) : ∀ i, (nodesTo adm i).length ≤ i
  | 0 => by simp [nodesTo]
  | i + 1 => by
    have := nodesTo_len adm i
    rw [nodesTo, List.length_append]
    split <;> simp <;> omega

theorem getD_at {α : Type} {xs : List α} {k : Nat} {x d : α} (h : xs[k]? = some x) : xs.getD k d = x := by
  rw [List.getD_eq_getElem?_getD, h]; rfl
theorem getAt {α : Type} {xs : List α} {k : Nat} (h : k < xs.length) : ∃ x, xs[k]? = some x := ⟨xs[k], List.getElem?_eq_getElem h⟩

/-- the test of a pair, in either program -/
theorem pair_eq {txs : List Tx} {adm : List Bool} (f : Tx → Tx → Option Bool) (hf : ∀ a ∈ txs, ∀ b ∈ txs, f a b = some (precB a b)) (hl : adm.length = txs.length) {i k : Nat} (hi : i < txs.length) (hk : k < txs.length) :
    (if ((i : Int) != (k : Int)) = true then (idx adm (i : Int)).bind fun x => if x = true then (idx adm (k : Int)).bind fun y => if y = true then (idx txs (i : Int)).bind fun a => (idx txs (k : Int)).bind fun b => (f a b).bind fun r => some r else some false else some false else some false) = some (prE txs adm i k) := by
  obtain ⟨x, hx⟩ := getAt (show i < adm.length by omega)
  obtain ⟨y, hy⟩ := getAt (show k < adm.length by omega)
  obtain ⟨a, ha⟩ := getAt hi
  obtain ⟨b, hb⟩ := getAt hk
  unfold prE
  rw [idx_nat hx, idx_nat hy, idx_nat ha, idx_nat hb, getD_at hx, getD_at hy, getD_at ha, getD_at hb]
  simp only [Option.bind_some]
  rw [hf a (List.mem_of_getElem? ha) b (List.mem_of_getElem? hb)]
  by_cases h : i = k
  · subst h; simp
  · have h2 : ((i : Int) != (k : Int)) = true := by simp; omega
    have h3 : (i == k) = false := by simpa using h
    rw [if_pos h2, h3]
    cases x <;> cases y <;> simp

/-- a row of the graph -/
theorem inner_eq {N : Nat} (hN : bigN N) {txs : List Tx} {adm : List Bool} (f : Tx → Tx → Option Bool) (hf : ∀ a ∈ txs, ∀ b ∈ txs, f a b = some (precB a b)) (hl : adm.length = txs.length) (h40 : txs.length ≤ 40) {i : Nat} (hi : i < txs.length) (acc : List S43) (hacc : acc.length ≤ 1600) :
    iterN (σ := ((List S43) × Int)) (ρ := List S43) (fun ((l367, v368) : ((List S43) × Int)) =>
      if v368 < (txs.length : Int) then
        Option.bind (α := Bool) (if ((i : Int) != v368) = true then (idx adm (i : Int)).bind fun x => if x = true then (idx adm v368).bind fun y => if y = true then (idx txs (i : Int)).bind fun a => (idx txs v368).bind fun b => (f a b).bind fun r => some r else some false else some false else some false) fun (v435 : Bool) =>
        if v435 = true then (appL 16 l367 [(S43.mk (i : Int) v368)]).bind fun _ => (chkI (v368 + 1)).bind fun v448 => some (.inl ((l367 ++ [(S43.mk (i : Int) v368)]), v448))
        else (chkI (v368 + 1)).bind fun v449 => some (.inl (l367, v449))
      else some (.inr l367)) N (acc, 0) = some (acc ++ row txs adm i) := by
  have := iter_rangeI txs.length (fun (l : List S43) (v : Int) => (l, v)) (fun ((l367, v368) : ((List S43) × Int)) =>
      if v368 < (txs.length : Int) then
        Option.bind (α := Bool) (if ((i : Int) != v368) = true then (idx adm (i : Int)).bind fun x => if x = true then (idx adm v368).bind fun y => if y = true then (idx txs (i : Int)).bind fun a => (idx txs v368).bind fun b => (f a b).bind fun r => some r else some false else some false else some false) fun (v435 : Bool) =>
        if v435 = true then (appL 16 l367 [(S43.mk (i : Int) v368)]).bind fun _ => (chkI (v368 + 1)).bind fun v448 => some (.inl ((l367 ++ [(S43.mk (i : Int) v368)]), v448))
        else (chkI (v368 + 1)).bind fun v449 => some (.inl (l367, v449))
      else some (.inr l367))
    (fun k l => .inl (if prE txs adm i k = true then l ++ [⟨i, k⟩] else l)) (fun l => l) (fun k l => l.length ≤ 1600 + k) (fun k s hk hv => ?_) (fun k s s' hk hv hb => ?_) (fun s hv => ?_) (n := N) (by unfold bigN at hN; omega) acc (by omega)
  · rw [this, listFor_fold, foldI_collect]
    unfold row
    rw [List.range_eq_range']
  · simp only []
    rw [if_pos (by omega : (k : Int) < (txs.length : Int)), pair_eq f hf hl hi hk]
    simp only [Option.bind_some]
    cases prE txs adm i k with
    | true =>
      rw [if_pos rfl, if_pos rfl, appL_of (by simp only [List.length_cons, List.length_nil]; exact Nat.le_trans (Nat.mul_le_mul_right 16 (show s.length + (0 + 1) ≤ 1700 by omega)) (by decide))]
      simp only [Option.bind_some, chkI_succ hk (show txs.length < 9223372036854775807 by omega)]
    | false =>
      simp only [Bool.false_eq_true, if_false, chkI_succ hk (show txs.length < 9223372036854775807 by omega), Option.bind_some]
  · injection hb with hb
    rw [← hb]
    split
    · simp; omega
    · omega
  · simp

theorem foldI_edges (txs : List Tx) (adm : List Bool) : ∀ (m : Nat), foldI (fun i (_ : Unit) l => l ++ row txs adm i) (List.replicate m ()) 0 [] = edgesTo txs adm m := by
  have key : ∀ (m k : Nat), foldI (fun i (_ : Unit) l => l ++ row txs adm i) (List.replicate m ()) k (edgesTo txs adm k) = edgesTo txs adm (k + m) := by
    intro m
    induction m with
    | zero => intro k; rfl
    | succ m ih =>
      intro k
      rw [List.replicate_succ, foldI]
      have := ih (k + 1)
      rw [show k + 1 + m = k + (m + 1) by omega] at this
      exact this
  intro m
  have := key m 0
  rwa [Nat.zero_add] at this

theorem d43_eq {N : Nat} (hN : bigN N) {txs : List Tx} (hs : small txs) (adm : List Bool) :
    d43 N txs adm = some (if checkT txs ≠ 0 then ([], checkT txs) else if adm.length ≠ txs.length then ([], 3) else (edgesTo txs adm txs.length, 0)) := by
  unfold d43
  rw [d38_eq hN hs]
  simp only [Option.bind_some]
  by_cases hc : checkT txs = 0
  · rw [if_neg (show ¬ ((checkT txs != 0) = true) by simp [hc]), if_neg (show ¬ (checkT txs ≠ 0) by simp [hc])]
    by_cases hl : adm.length = txs.length
    · rw [if_neg (show ¬ (((adm.length : Int) != (txs.length : Int)) = true) by simp [hl]), if_neg (show ¬ (adm.length ≠ txs.length) by simp [hl])]
      have h40 := len_of hc
      have hok := okTx_of hc
      have hf : ∀ a ∈ txs, ∀ b ∈ txs, d70 N a b = some (precB a b) := fun a ha b hb => d70_eq hN (hok a ha) (hok b hb)
      have hin := fun (i : Nat) (hi : i < txs.length) (acc : List S43) (h : acc.length ≤ 1600) => inner_eq hN (d70 N) hf hl h40 hi acc h
      have := iter_rangeI txs.length (fun (l : List S43) (v : Int) => (l, v)) (fun ((l113, v114) : ((List S43) × Int)) =>
          if v114 < (txs.length : Int) then
            Option.bind (α := List S43) (iterN (σ := ((List S43) × Int)) (ρ := List S43) (fun ((l367, v368) : ((List S43) × Int)) =>
              if v368 < (txs.length : Int) then
                Option.bind (α := Bool) (if (v114 != v368) = true then (idx adm v114).bind fun x => if x = true then (idx adm v368).bind fun y => if y = true then (idx txs v114).bind fun a => (idx txs v368).bind fun b => (d70 N a b).bind fun r => some r else some false else some false else some false) fun (v435 : Bool) =>
                if v435 = true then (appL 16 l367 [(S43.mk v114 v368)]).bind fun _ => (chkI (v368 + 1)).bind fun v448 => some (.inl ((l367 ++ [(S43.mk v114 v368)]), v448))
                else (chkI (v368 + 1)).bind fun v449 => some (.inl (l367, v449))
              else some (.inr l367)) N (l113, 0)) fun (l423 : List S43) => (chkI (v114 + 1)).bind fun v450 => some (.inl (l423, v450))
          else some (.inr l113))
        (fun i l => .inl (l ++ row txs adm i)) (fun l => l) (fun k l => l.length ≤ k * txs.length) (fun k s hk hv => ?_) (fun k s s' hk hv hb => ?_) (fun s hv => ?_) (n := N) (by unfold bigN at hN; omega) [] (by simp)
      · have this2 := this
        rw [listFor_fold, foldI_edges] at this2
        exact (congrArg (fun o => Option.bind o fun (l339 : List S43) => some (l339, (0 : Int))) this2)
      · simp only []
        have hle : s.length ≤ 1600 := Nat.le_trans hv (Nat.mul_le_mul (show k ≤ 40 by omega) h40)
        rw [if_pos (by omega : (k : Int) < (txs.length : Int)), hin k hk s hle]
        simp only [Option.bind_some, chkI_succ hk (show txs.length < 9223372036854775807 by omega)]
      · injection hb with hb
        have := row_len txs adm k
        rw [← hb, List.length_append, Nat.add_mul]
        omega
      · simp
    · rw [if_pos (show (((adm.length : Int) != (txs.length : Int)) = true) by simp; omega), if_pos (show adm.length ≠ txs.length from hl)]
  · rw [if_pos (show (checkT txs != 0) = true by simp [hc]), if_pos (show checkT txs ≠ 0 from hc)]
end Go.Proofs.Ytabjbkdlacibjaa
