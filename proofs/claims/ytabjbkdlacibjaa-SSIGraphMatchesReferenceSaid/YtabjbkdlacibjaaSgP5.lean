/- The functional program of SSIGraph yields true. Plain lists. -/
import Derived.Test.YtabjbkdlacibjaaSgP4
import Derived.Test.YtabjbkdlacibjaaSg8
namespace Go.Proofs.Ytabjbkdlacibjaa
open Go.Ab Go.Rp

/-- s must precede t, by their numbers -/
def qR (txs : List Tx) (s t : Int) : Bool := !(s == t) && precB (txs.getD s.toNat tx0) (txs.getD t.toNat tx0)

theorem mem_row {txs : List Tx} {adm : List Bool} {i : Nat} {e : S43} : e ∈ row txs adm i ↔ ∃ k, k < txs.length ∧ prE txs adm i k = true ∧ e = ⟨i, k⟩ := by
  unfold row
  simp only [List.mem_map, List.mem_filter, List.mem_range]
  constructor
  · rintro ⟨k, ⟨h1, h2⟩, rfl⟩; exact ⟨k, h1, h2, rfl⟩
  · rintro ⟨k, h1, h2, rfl⟩; exact ⟨k, ⟨h1, h2⟩, rfl⟩
theorem mem_edges {txs : List Tx} {adm : List Bool} {e : S43} : ∀ {n : Nat}, e ∈ edgesTo txs adm n ↔ ∃ i k, i < n ∧ k < txs.length ∧ prE txs adm i k = true ∧ e = ⟨i, k⟩
  | 0 => by simp [edgesTo]
  | n + 1 => by
    rw [edgesTo, List.mem_append, mem_edges, mem_row]
    constructor
    · rintro (⟨i, k, h1, h2⟩ | ⟨k, h1, h2⟩)
      · exact ⟨i, k, by omega, h2⟩
      · exact ⟨n, k, by omega, h1, h2⟩
    · rintro ⟨i, k, h1, h2⟩
      by_cases h : i = n
      · subst h; exact .inr ⟨k, h2⟩
      · exact .inl ⟨i, k, by omega, h2⟩
theorem mem_nodes {adm : List Bool} {x : Int} : ∀ {n : Nat}, x ∈ nodesTo adm n ↔ ∃ i : Nat, i < n ∧ adm.getD i false = true ∧ x = i
  | 0 => by simp [nodesTo]
  | n + 1 => by
    rw [nodesTo, List.mem_append, mem_nodes]
    constructor
    · rintro (⟨i, h1, h2⟩ | h)
      · exact ⟨i, by omega, h2⟩
      · by_cases ha : adm.getD n false = true
        · rw [if_pos ha] at h
          simp at h
          exact ⟨n, by omega, ha, h⟩
        · rw [if_neg ha] at h; cases h
    · rintro ⟨i, h1, h2, h3⟩
      by_cases h : i = n
      · subst h
        rw [if_pos h2]
        exact .inr (by simp [h3])
      · exact .inl ⟨i, by omega, h2, h3⟩

/-- the same among those that are admitted -/
theorem free_eq {txs : List Tx} {adm : List Bool} {rem : List Int} (hrem : ∀ x ∈ rem, x ∈ nodesTo adm txs.length) {t : Int} (ht : t ∈ nodesTo adm txs.length) :
    ((edgesTo txs adm txs.length).any fun e => e.a1 == t && rem.any fun s => e.a0 == s) = !(rem.all fun s => !qR txs s t) := by
  obtain ⟨k, hk, hka, rfl⟩ := mem_nodes.1 ht
  rw [List.not_all_eq_any_not, Bool.eq_iff_iff]
  simp only [List.any_eq_true, Bool.and_eq_true, beq_iff_eq, Bool.not_not]
  constructor
  · rintro ⟨e, he, h1, s, hs, h2⟩
    obtain ⟨i, k', hi, hk', hp, rfl⟩ := mem_edges.1 he
    have h1 : ((k' : Nat) : Int) = k := h1
    have h2 : ((i : Nat) : Int) = s := h2
    have : k' = k := by omega
    subst this
    refine ⟨s, hs, ?_⟩
    subst h2
    unfold prE at hp
    unfold qR
    simp only [Bool.and_eq_true, Bool.not_eq_true', beq_eq_false_iff_ne, ne_eq] at hp ⊢
    exact ⟨by omega, by simpa using hp.2.2.2⟩
  · rintro ⟨s, hs, hq⟩
    obtain ⟨i, hi, hia, rfl⟩ := mem_nodes.1 (hrem s hs)
    refine ⟨⟨i, k⟩, mem_edges.2 ⟨i, k, hi, hk, ?_, rfl⟩, rfl, i, hs, rfl⟩
    unfold qR at hq
    unfold prE
    simp only [Bool.and_eq_true, Bool.not_eq_true', beq_eq_false_iff_ne, ne_eq] at hq ⊢
    exact ⟨by omega, hia, hka, by simpa using hq.2⟩

theorem d57_eq {N : Nat} (hN : bigN N) {xs : List Int} (hs : small xs) (y : Int) : d57 N xs y = some (xs.any fun x => y == x) := by
  have h86 : d86 N xs y = some (optI (xs.findIdx? fun x => y == x)) := indexFunc_eq N xs (fun x => some (y == x)) (fun x => y == x) (fun _ _ => rfl) (hs.lt hN) hs
  unfold d57
  rw [h86, Option.bind_some, optI_ge]
theorem d73_eq {N : Nat} (hN : bigN N) {rem : List Int} (hs : small rem) (e : S43) (t : Int) : d73 N e t rem = some (e.a1 == t && rem.any fun s => e.a0 == s) := by
  unfold d73
  rw [d57_eq hN hs]
  cases e.a1 == t <;> simp
theorem d71_eq {N : Nat} (hN : bigN N) {edges : List S43} (he : small edges) {rem : List Int} (hs : small rem) (t : Int) : d71 N t edges rem = some (!(edges.any fun e => e.a1 == t && rem.any fun s => e.a0 == s)) := by
  have h89 : d89 N edges (fun e => d73 N e t rem) = some (optI (edges.findIdx? fun e => e.a1 == t && rem.any fun s => e.a0 == s)) :=
    indexFunc_eq N edges (fun e => d73 N e t rem) (fun e => e.a1 == t && rem.any fun s => e.a0 == s) (fun e _ => d73_eq hN hs e t) (he.lt hN) he
  unfold d71 d72
  rw [h89]
  simp only [Option.bind_some]
  rw [optI_ge]

theorem nodes_eq {N : Nat} (hN : bigN N) {adm : List Bool} (h40 : adm.length ≤ 40) :
    iterN (σ := ((List Int) × Int)) (ρ := List Int) (fun ((l10, v11) : ((List Int) × Int)) =>
      if v11 < (adm.length : Int) then (idx adm v11).bind fun x30 =>
        if x30 = true then (appL 8 l10 [v11]).bind fun _ => (chkI (v11 + 1)).bind fun v34 => some (.inl ((l10 ++ [v11]), v34)) else (chkI (v11 + 1)).bind fun v35 => some (.inl (l10, v35))
      else some (.inr l10)) N (([] : List Int), 0) = some (nodesTo adm adm.length) := by
  have := iter_listI adm (fun (l : List Int) (v : Int) => (l, v)) (fun ((l10, v11) : ((List Int) × Int)) =>
      if v11 < (adm.length : Int) then (idx adm v11).bind fun x30 =>
        if x30 = true then (appL 8 l10 [v11]).bind fun _ => (chkI (v11 + 1)).bind fun v34 => some (.inl ((l10 ++ [v11]), v34)) else (chkI (v11 + 1)).bind fun v35 => some (.inl (l10, v35))
      else some (.inr l10))
    (fun k x l => .inl (l ++ (if x = true then [(k : Int)] else []))) (fun l => l) (fun k l => l.length ≤ k) (fun k x s hx hk hv => ?_) (fun k x s s' hx hk hv hb => ?_) (fun s hv => ?_) (n := N) (by unfold bigN at hN; omega) [] (by simp)
  · rw [this, listFor_fold]
    congr 1
    have key : ∀ (xs : List Bool) (k : Nat), adm.drop k = xs → foldI (fun k x l => l ++ (if x = true then [(k : Int)] else [])) xs k (nodesTo adm k) = nodesTo adm (k + xs.length) := by
      intro xs
      induction xs with
      | nil => intro k _; rfl
      | cons x xs ih =>
        intro k hd
        have hk : k < adm.length := by
          apply Classical.byContradiction
          intro h
          rw [List.drop_eq_nil_of_le (by omega)] at hd
          cases hd
        rw [List.drop_eq_getElem_cons hk] at hd
        injection hd with h1 h2
        have := ih (k + 1) h2
        rw [List.length_cons, show k + (xs.length + 1) = k + 1 + xs.length by omega, ← this, foldI, nodesTo, getD_at (List.getElem?_eq_getElem hk), h1]
    have := key adm 0 rfl
    rwa [Nat.zero_add] at this
  · simp only []
    rw [if_pos (by omega : (k : Int) < (adm.length : Int)), idx_nat hx]
    simp only [Option.bind_some]
    cases x with
    | true =>
      rw [if_pos rfl, if_pos rfl, appL_of (by simp only [List.length_cons, List.length_nil]; exact Nat.le_trans (Nat.mul_le_mul_right 8 (show s.length + (0 + 1) ≤ 1700 by omega)) (by decide))]
      simp only [Option.bind_some, chkI_succ hk (show adm.length < 9223372036854775807 by omega)]
    | false => simp only [Bool.false_eq_true, if_false, chkI_succ hk (show adm.length < 9223372036854775807 by omega), Option.bind_some, List.append_nil]
  · injection hb with hb
    rw [← hb, List.length_append]
    split <;> simp <;> omega
  · simp

theorem d44_eq {N : Nat} (hN : bigN N) {txs : List Tx} (hs : small txs) (adm : List Bool) :
    d44 N txs adm = some (if checkT txs ≠ 0 then ([], checkT txs) else if adm.length ≠ txs.length then ([], 3) else
      match topo (qR txs) (nodesTo adm txs.length).length (nodesTo adm txs.length) [] with | some o => (o, 0) | none => ([], 14)) := by
  unfold d44
  rw [d43_eq hN hs]
  simp only [Option.bind_some]
  by_cases hc : checkT txs = 0
  · by_cases hl : adm.length = txs.length
    · rw [if_neg (show ¬ (checkT txs ≠ 0) by simp [hc]), if_neg (show ¬ (adm.length ≠ txs.length) by simp [hl]), if_neg (show ¬ (checkT txs ≠ 0) by simp [hc]), if_neg (show ¬ (adm.length ≠ txs.length) by simp [hl])]
      have h40 := len_of hc
      have hnl := nodesTo_len adm txs.length
      have hel := edgesTo_len txs adm txs.length
      have hel2 : (edgesTo txs adm txs.length).length ≤ 1600 := Nat.le_trans hel (Nat.mul_le_mul h40 h40)
      have hloop := topo_loop (qR txs) (([] : List Int), (14 : Int)) (fun rem => ∀ x ∈ rem, x ∈ nodesTo adm txs.length) (fun ((l44, l45) : ((List Int) × (List Int))) =>
          if (l44.length : Int) > 0 then
            (d58 N l44 (fun a0 => d71 N a0 (edgesTo txs adm txs.length) l44)).bind fun r66 =>
            if r66 < 0 then some (.inr (.ret (([] : List Int), 14))) else
            (idx l44 r66).bind fun x68 => (appL 8 l45 [x68]).bind fun _ => (chkI (r66 + 1)).bind fun v71 => (d62 N l44 r66 v71).bind fun l72 => some (.inl (l72, (l45 ++ [x68])))
          else some (.inr (.go l45)))
        (fun rem i h x hx => h x (mem_part hx)) (fun ord => by simp) (fun rem ord hg hne hle hf => ?_) (fun rem ord i t hg hle hle2 hf ht => ?_) N (nodesTo adm txs.length).length (nodesTo adm txs.length) [] rfl (by unfold bigN at hN; omega) (by simp; omega) (fun x hx => hx)
      · have hn := nodes_eq hN (adm := adm) (by omega)
        rw [hl] at hn
        simp only [hl]
        have e := congrArg (fun o => bindO (β := List Int) (ρ := ((List Int) × Int)) o fun (l64 : List Int) => some (l64, (0 : Int))) hloop
        have e0 : ((0 : Int) != 0) = false := rfl
        simp only [e0, Bool.false_eq_true, if_false]
        rw [hn]
        simp only [Option.bind_some]
        refine Eq.trans e ?_
        cases topo (qR txs) (nodesTo adm txs.length).length (nodesTo adm txs.length) [] <;> rfl
      · have hpos : 0 < rem.length := List.length_pos_iff.2 hne
        have hfind : d58 N rem (fun a0 => d71 N a0 (edgesTo txs adm txs.length) rem) = some (optI (firstFree (qR txs) rem)) :=
          indexFunc_eq N rem (fun a0 => d71 N a0 (edgesTo txs adm txs.length) rem) (fun t => rem.all fun s => !qR txs s t) (fun t ht => by
            rw [d71_eq hN (by unfold small; omega) (show small rem by unfold small; omega), free_eq hg (hg t ht), Bool.not_not]) (by unfold bigN at hN; omega) (by omega)
        simp only []
        rw [if_pos (by omega : (rem.length : Int) > 0), hfind, hf]
        simp [optI]
      · have hi := firstFree_lt hf
        have hfind : d58 N rem (fun a0 => d71 N a0 (edgesTo txs adm txs.length) rem) = some (optI (firstFree (qR txs) rem)) :=
          indexFunc_eq N rem (fun a0 => d71 N a0 (edgesTo txs adm txs.length) rem) (fun t => rem.all fun s => !qR txs s t) (fun t ht => by
            rw [d71_eq hN (by unfold small; omega) (show small rem by unfold small; omega), free_eq hg (hg t ht), Bool.not_not]) (by unfold bigN at hN; omega) (by omega)
        simp only []
        rw [if_pos (by omega : (rem.length : Int) > 0), hfind, hf]
        simp only [Option.bind_some, optI]
        rw [if_neg (by omega), idx_nat ht, Option.bind_some, appL_of (by simp only [List.length_cons, List.length_nil]; exact Nat.le_trans (Nat.mul_le_mul_right 8 (show ord.length + (0 + 1) ≤ 2000 by omega)) (by decide)), Option.bind_some, chkI_of (by omega) (by omega), Option.bind_some]
        unfold d62 delL
        rw [if_pos (by omega), Option.bind_some, show ((i : Int) + 1).toNat = i + 1 by omega, Int.toNat_natCast]
    · rw [if_neg (show ¬ (checkT txs ≠ 0) by simp [hc]), if_pos (show adm.length ≠ txs.length from hl), if_neg (show ¬ (checkT txs ≠ 0) by simp [hc]), if_pos (show adm.length ≠ txs.length from hl)]
      rfl
  · rw [if_pos (show checkT txs ≠ 0 from hc), if_pos (show checkT txs ≠ 0 from hc)]
    simp [hc]
end Go.Proofs.Ytabjbkdlacibjaa
