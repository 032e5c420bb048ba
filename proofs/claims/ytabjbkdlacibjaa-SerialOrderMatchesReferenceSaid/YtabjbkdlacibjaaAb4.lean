/- The abstract machine: all pure operations. -/
import Derived.Test.YtabjbkdlacibjaaAb3
namespace Go.Ab
open Go.RowKit

/-- the length of a slice or string -/
def lenV : V → Option Nat
  | .d (.sl es) | .dx es => some es.length
  | .ref _ _ len => some len
  | .d (.lit (.slice none 0 0)) => some 0
  | _ => none

theorem lenV_sound {E : Env} {w : World} {x : V} {v : Value} (h : RV E w x v) {n : Nat} (hn : lenV x = some n) : ∃ A c, v = .slice A n c := by
  unfold lenV at hn
  split at hn
  · injection hn with hn; subst hn; obtain ⟨A, cap, rfl, _⟩ := h; exact ⟨A, cap, rfl⟩
  · injection hn with hn; subst hn; obtain ⟨⟨A, cap, rfl, _⟩, _⟩ := h; exact ⟨A, cap, rfl⟩
  · injection hn with hn; subst hn
    rcases h with ⟨_, _, rfl, rfl⟩ | ⟨_, _, a, rfl, _⟩
    · exact ⟨_, _, rfl⟩
    · exact ⟨_, _, rfl⟩
  · injection hn with hn; subst hn; obtain ⟨rfl, _⟩ := h; exact ⟨_, _, rfl⟩
  · cases hn

/-- cells of a value -/
def cellsV : V → List V
  | .agg cs => cs
  | v => [v]

/-- put cells into a list -/
def setL (cs : List V) (off : Nat) (vs : List V) : List V := cs.take off ++ (vs ++ cs.drop (off + vs.length))

def fillV (place : Nat → Option (Nat × Nat)) (cs : List V) : List (Nat × V) → Option (List V)
  | [] => some cs
  | (i, v) :: rest =>
    match place i with
    | none => none
    | some (off, size) => if (cellsV v).all V.cell = true ∧ (cellsV v).length = size ∧ off + size ≤ cs.length then fillV place (setL cs off (cellsV v)) rest else none

theorem cellsV_sound {E : Env} {w : World} {x : V} {v : Value} (h : RV E w x v) (hc : (cellsV x).all V.cell = true) : RVs E w (cellsV x) v.cells.toList := by
  cases x with
  | agg cs => obtain ⟨vs, rfl, _, h2⟩ := h; simpa [Value.cells, cellsV] using h2
  | tup cs => simp [cellsV, V.cell] at hc
  | junk => simp [cellsV, V.cell] at hc
  | hole =>
    have h1 := RV_cell h rfl
    have : v.cells = #[v] := by cases v <;> first | rfl | (cases h1)
    rw [this]; exact ⟨v, [], rfl, h, rfl⟩
  | dx es => simp [cellsV, V.cell] at hc
  | d x =>
    have h1 := RD_cell h
    have : v.cells = #[v] := by cases v <;> first | rfl | (cases h1)
    rw [this]; exact ⟨v, [], rfl, h, rfl⟩
  | ref id off len =>
    have h1 := RV_cell h rfl
    have : v.cells = #[v] := by cases v <;> first | rfl | (cases h1)
    rw [this]; exact ⟨v, [], rfl, h, rfl⟩
  | ptr id i off =>
    have h1 := RV_cell h rfl
    have : v.cells = #[v] := by cases v <;> first | rfl | (cases h1)
    rw [this]; exact ⟨v, [], rfl, h, rfl⟩
  | mref id =>
    have h1 := RV_cell h rfl
    have : v.cells = #[v] := by cases v <;> first | rfl | (cases h1)
    rw [this]; exact ⟨v, [], rfl, h, rfl⟩
  | fn f caps =>
    have h1 := RV_cell h rfl
    have : v.cells = #[v] := by cases v <;> first | rfl | (cases h1)
    rw [this]; exact ⟨v, [], rfl, h, rfl⟩

theorem foldl_set (c : Array Value) : ∀ (vs : List Value) (k off : Nat) (cs : Array Value), ((vs.zipIdx k).foldl (fun cs (x : Value × Nat) => cs.setIfInBounds (off + x.2) x.1) cs).toList = cs.toList.take (off + k) ++ ((vs.take (cs.size - (off + k))) ++ cs.toList.drop (off + k + vs.length))
  | [], k, off, cs => by simp
  | v :: vs, k, off, cs => by
    rw [List.zipIdx_cons, List.foldl_cons, foldl_set c vs (k + 1) off]
    have hs : (cs.setIfInBounds (off + k) v).size = cs.size := by simp
    rw [hs]
    by_cases h : off + k < cs.size
    · apply List.ext_getElem?
      intro j
      simp only [List.getElem?_append, List.length_take, List.getElem?_take, List.getElem?_drop, Array.toList_setIfInBounds, List.getElem?_set, List.length_set, Array.length_toList, List.length_cons]
      have e1 : min (off + (k + 1)) cs.size = off + k + 1 := by omega
      have e2 : min (off + k) cs.size = off + k := by omega
      rw [e1, e2]
      by_cases hj : j < off + k
      · rw [if_pos (by omega), if_pos hj, if_pos (by omega), if_neg (by omega), if_pos hj]
      · by_cases hj2 : j = off + k
        · subst hj2
          rw [if_pos (by omega), if_neg hj, if_pos (by omega), if_pos rfl, if_pos h]
          have : cs.size - (off + k) = (cs.size - (off + k) - 1) + 1 := by omega
          rw [if_pos (by simp; omega), Nat.sub_self, if_pos (by omega)]
          rfl
        · rw [if_neg (by omega), if_neg hj]
          have e3 : min (cs.size - (off + k)) (vs.length + 1) = min (cs.size - (off + (k + 1))) vs.length + 1 := by omega
          rw [e3]
          have e4 : j - (off + k) = (j - (off + k + 1)) + 1 := by omega
          rw [e4]
          by_cases hj3 : j - (off + k + 1) < min (cs.size - (off + (k + 1))) vs.length
          · rw [if_pos hj3, if_pos (by omega), if_pos (by omega), if_pos (by omega)]
            rfl
          · rw [if_neg hj3, if_neg (by omega), if_neg (by omega)]
            congr 1
            omega
    · have e : cs.setIfInBounds (off + k) v = cs := by simp [Array.setIfInBounds, h]
      rw [e]
      have e1 : cs.size - (off + k) = 0 := by omega
      have e2 : cs.size - (off + (k + 1)) = 0 := by omega
      have e3 : cs.toList.take (off + (k + 1)) = cs.toList.take (off + k) := by
        rw [List.take_of_length_le (by simp; omega), List.take_of_length_le (by simp; omega)]
      rw [e1, e2, e3, List.drop_eq_nil_of_le (by simp; omega), List.drop_eq_nil_of_le (by simp; omega)]
      simp

theorem RVs_set {E : Env} {w : World} {cs ds : List V} {vs us : List Value} (h : RVs E w cs vs) (g : RVs E w ds us) {off : Nat} (hle : off + ds.length ≤ cs.length) :
    RVs E w (setL cs off ds) (vs.take off ++ (us ++ vs.drop (off + us.length))) := by
  unfold setL
  rw [RVs_length g]
  exact RVs_append (RVs_take _ h) (RVs_append g (RVs_drop _ h))

theorem fillV_sound {E : Env} {w : World} {place : Nat → Option (Nat × Nat)} {ρ : Operand → Value} {ev : Operand → V} (hev : ∀ x, RV E w (ev x) (ρ x)) : ∀ (parts : List (Nat × Operand)) (cs : List V) (c : Array Value) (r : List V), RVs E w cs c.toList → (∀ x ∈ cs, x.cell = true) →
    fillV place cs (parts.map fun p => (p.1, ev p.2)) = some r → ∃ c', Instr.fill place c (parts.map fun p => (p.1, ρ p.2)) = some c' ∧ RVs E w r c'.toList ∧ (∀ x ∈ r, x.cell = true)
  | [], cs, c, r, h, hc, hr => by
    injection hr with hr
    subst hr
    exact ⟨c, rfl, h, hc⟩
  | (i, o) :: rest, cs, c, r, h, hc, hr => by
    simp only [List.map_cons, fillV] at hr
    cases hp : place i with
    | none => rw [hp] at hr; cases hr
    | some p =>
      obtain ⟨off, size⟩ := p
      rw [hp] at hr
      simp only at hr
      split at hr
      · rename_i hcond
        obtain ⟨h1, h2, h3⟩ := hcond
        have hv := cellsV_sound (hev o) h1
        have hlen := RVs_length h
        have hlen2 := RVs_length hv
        have hcell : ∀ x ∈ setL cs off (cellsV (ev o)), x.cell = true := by
          intro x hx
          unfold setL at hx
          rcases List.mem_append.1 hx with hx | hx
          · exact hc x (List.mem_of_mem_take hx)
          · rcases List.mem_append.1 hx with hx | hx
            · exact List.all_eq_true.1 h1 x hx
            · exact hc x (List.mem_of_mem_drop hx)
        have hsz : c.size = cs.length := by rw [← hlen]; simp
        have hvs : (ρ o).cells.size = size := by rw [← h2, ← hlen2]; simp
        have hfold := foldl_set c (ρ o).cells.toList 0 off c
        have hstep := RVs_set h hv (off := off) (by omega)
        obtain ⟨c', h4, h5, h6⟩ := fillV_sound hev rest (setL cs off (cellsV (ev o))) ((ρ o).cells.zipIdx.foldl (fun cs x => cs.setIfInBounds (off + x.2) x.1) c) r (by
          have e : ((ρ o).cells.zipIdx.foldl (fun cs (x : Value × Nat) => cs.setIfInBounds (off + x.2) x.1) c) = ((ρ o).cells.toList.zipIdx 0).foldl (fun cs (x : Value × Nat) => cs.setIfInBounds (off + x.2) x.1) c := by
            rw [← Array.foldl_toList]; simp
          rw [e, hfold]
          have e2 : (ρ o).cells.toList.take (c.size - (off + 0)) = (ρ o).cells.toList := List.take_of_length_le (by simp; omega)
          rw [e2, Nat.add_zero]
          exact hstep) hcell hr
        refine ⟨c', ?_, h5, h6⟩
        simp only [List.map_cons, Instr.fill, hp]
        rw [if_neg]
        · exact h4
        · simp; omega
      · cases hr
end Go.Ab
