/- The functional program of SSIGraph yields true. Plain lists. -/
import Derived.Test.YtabjbkdlacibjaaSgP5
namespace Go.Proofs.Ytabjbkdlacibjaa
open Go.Ab Go.Rp

theorem d24_eq {N : Nat} (hN : bigN N) {xs ys : List S43} (hs : small xs) : d24 N xs ys = some (xs.length == ys.length && (xs.zip ys).all fun p => beqS43 p.1 p.2) := by
  have : DecidableEq S43 := fun a b => decidable_of_iff (beqS43 a b = true) (beqS43_iff a b)
  have h := equal_eq N xs ys (fun x y => !beqS43 x y) (fun x y => by
    rw [Bool.not_eq_true', ← Bool.not_eq_true, not_congr (beqS43_iff x y)]) (hs.lt hN) hs
  refine Eq.trans h ?_
  congr 1
  rw [Bool.eq_iff_iff, decide_eq_true_iff, Bool.and_eq_true, beq_iff_eq]
  constructor
  · rintro rfl
    refine ⟨rfl, ?_⟩
    rw [List.all_eq_true]
    intro p hp
    have : p.1 = p.2 := by
      obtain ⟨i, hi, rfl⟩ := List.getElem_of_mem hp
      simp
    rw [this]
    exact (beqS43_iff _ _).2 rfl
  · rintro ⟨hl, hall⟩
    apply List.ext_getElem hl
    intro i h1 h2
    rw [List.all_eq_true] at hall
    have := hall (xs[i], ys[i]) (by
      rw [List.mem_iff_getElem]
      exact ⟨i, by simp; omega, by simp⟩)
    exact (beqS43_iff _ _).1 this
theorem d24_self {N : Nat} (hN : bigN N) {xs : List S43} (hs : small xs) : d24 N xs xs = some true := by
  rw [d24_eq hN hs]
  congr 1
  rw [Bool.and_eq_true, List.all_eq_true]
  refine ⟨by simp, fun p hp => ?_⟩
  obtain ⟨i, hi, rfl⟩ := List.getElem_of_mem hp
  simp [(beqS43_iff _ _).2]
theorem d22_self {N : Nat} (hN : bigN N) {xs : List Int} (hs : small xs) : d22 N xs xs = some true := by
  have h := equal_eq N xs xs (fun x y => x != y) (fun x y => by simp) (hs.lt hN) hs
  refine Eq.trans h ?_
  simp

theorem d46_eq {N : Nat} (hN : bigN N) {txs : List Tx} (hok : ∀ t ∈ txs, okTx t) {s t : Int} {n : Nat} (hn : n ≤ txs.length) {adm : List Bool} (hs : s ∈ nodesTo adm n) (ht : t ∈ nodesTo adm n) : d46 N s t txs = some (qR txs s t) := by
  obtain ⟨i, hi, _, rfl⟩ := mem_nodes.1 hs
  obtain ⟨k, hk, _, rfl⟩ := mem_nodes.1 ht
  obtain ⟨a, ha⟩ := getAt (show i < txs.length by omega)
  obtain ⟨b, hb⟩ := getAt (show k < txs.length by omega)
  unfold d46 qR
  rw [idx_nat ha, idx_nat hb, Int.toNat_natCast, Int.toNat_natCast, getD_at ha, getD_at hb]
  simp only [Option.bind_some]
  rw [d45_eq hN (hok a (List.mem_of_getElem? ha)) (hok b (List.mem_of_getElem? hb))]
  by_cases h : i = k
  · subst h; simp
  · have h2 : ((i : Int) != (k : Int)) = true := by simp; omega
    have h3 : ((i : Int) == (k : Int)) = false := by simp; omega
    rw [if_pos h2, h3]
    simp

theorem d8_true {N : Nat} (hN : bigN N) (h33 : d33 N = some true) {txs : List Tx} (hz : txs.length * 64 ≤ reach) (adm : List Bool) : d8 N txs adm = some true := by
  have hs : small txs := by unfold small; unfold reach at hz; omega
  unfold d8
  rw [h33]
  simp only [Option.bind_some, Bool.not_true, Bool.false_eq_true, if_false]
  rw [d34_eq hN hz]
  simp only [Option.bind_some]
  rw [d43_eq hN hs, d44_eq hN hs, d37_eq hN hs]
  simp only [Option.bind_some]
  by_cases hc : checkT txs = 0
  · by_cases hl : adm.length = txs.length
    · have h40 := len_of hc
      have hok := okTx_of hc
      have hf : ∀ a ∈ txs, ∀ b ∈ txs, d45 N a b = some (precB a b) := fun a ha b hb => d45_eq hN (hok a ha) (hok b hb)
      have hin := fun (i : Nat) (hi : i < txs.length) (acc : List S43) (h : acc.length ≤ 1600) => inner_eq hN (d45 N) hf hl h40 hi acc h
      have hnl := nodesTo_len adm txs.length
      have hel := edgesTo_len txs adm txs.length
      have hel2 : (edgesTo txs adm txs.length).length ≤ 1600 := Nat.le_trans hel (Nat.mul_le_mul h40 h40)
      rw [if_neg (show ¬ (checkT txs ≠ 0) by simp [hc]), if_neg (show ¬ (adm.length ≠ txs.length) by simp [hl]), if_neg (show ¬ (checkT txs ≠ 0) by simp [hc]), if_neg (show ¬ (adm.length ≠ txs.length) by simp [hl]), hc]
      have e0 : ((0 : Int) == 0) = true := rfl
      have e1 : ((adm.length : Int) != (txs.length : Int)) = false := by simp [hl]
      have e2 : ((0 : Int) != 0) = false := rfl
      simp only [e0, e1, e2, if_true, if_false, Option.bind_some, Bool.false_eq_true]
      have hloop := iter_rangeI txs.length (fun (p : List S43 × List Int) (v : Int) => (p.1, p.2, v)) (fun ((l136, l137, v138) : ((List S43) × (List Int) × Int)) =>
          if v138 < (txs.length : Int) then
            Option.bind (α := List S43) (iterN (σ := ((List S43) × Int)) (ρ := List S43) (fun ((l403, v404) : ((List S43) × Int)) =>
              if v404 < (txs.length : Int) then
                Option.bind (α := Bool) (if (v138 != v404) = true then (idx adm v138).bind fun x => if x = true then (idx adm v404).bind fun y => if y = true then (idx txs v138).bind fun a => (idx txs v404).bind fun b => (d45 N a b).bind fun r => some r else some false else some false else some false) fun (v471 : Bool) =>
                if v471 = true then (appL 16 l403 [(S43.mk v138 v404)]).bind fun _ => (chkI (v404 + 1)).bind fun v484 => some (.inl ((l403 ++ [(S43.mk v138 v404)]), v484))
                else (chkI (v404 + 1)).bind fun v485 => some (.inl (l403, v485))
              else some (.inr l403)) N (l136, 0)) fun (l459 : List S43) =>
            (idx adm v138).bind fun x486 =>
            if x486 = true then (appL 8 l137 [v138]).bind fun _ => (chkI (v138 + 1)).bind fun v490 => some (.inl (l459, (l137 ++ [v138]), v490))
            else (chkI (v138 + 1)).bind fun v491 => some (.inl (l459, l137, v491))
          else some (.inr (l136, l137)))
        (fun i p => .inl (p.1 ++ row txs adm i, p.2 ++ (if adm.getD i false = true then [(i : Int)] else []))) (fun p => p) (fun k p => p.1.length ≤ k * txs.length ∧ p.2.length ≤ k) (fun k s hk hv => ?_) (fun k s s' hk hv hb => ?_) (fun s hv => ?_) (n := N) (by unfold bigN at hN; omega) ([], []) (by simp)
      · have hfold : ∀ m : Nat, foldI (fun i (_ : Unit) (p : List S43 × List Int) => (p.1 ++ row txs adm i, p.2 ++ (if adm.getD i false = true then [(i : Int)] else []))) (List.replicate m ()) 0 ([], []) = (edgesTo txs adm m, nodesTo adm m) := by
          have key : ∀ (m k : Nat), foldI (fun i (_ : Unit) (p : List S43 × List Int) => (p.1 ++ row txs adm i, p.2 ++ (if adm.getD i false = true then [(i : Int)] else []))) (List.replicate m ()) k (edgesTo txs adm k, nodesTo adm k) = (edgesTo txs adm (k + m), nodesTo adm (k + m)) := by
            intro m
            induction m with
            | zero => intro k; rfl
            | succ m ih =>
              intro k
              rw [List.replicate_succ, foldI]
              have := ih (k + 1)
              rw [show k + 1 + m = k + (m + 1) by omega] at this
              exact this
          intro m
          have := key m 0
          rwa [Nat.zero_add] at this
        rw [listFor_fold, hfold] at hloop
        have hp : ∀ s ∈ nodesTo adm txs.length, ∀ t ∈ nodesTo adm txs.length, d46 N s t txs = some (qR txs s t) := fun s hs t ht => d46_eq hN hok (Nat.le_refl _) hs ht
        have h31 := d31_eq hN (fun b0 b1 => d46 N b0 b1 txs) (qR txs) (nodes := nodesTo adm txs.length) (by omega) hp
        refine Eq.trans (congrArg (fun o => Option.bind o _) hloop) ?_
        simp only [Option.bind_some]
        rw [d24_self hN (by unfold small; omega)]
        simp only [Option.bind_some, Bool.not_true, Bool.false_eq_true, if_false]
        rw [h31]
        simp only [Option.bind_some]
        cases ho : topo (qR txs) (nodesTo adm txs.length).length (nodesTo adm txs.length) [] with
        | none => rfl
        | some o =>
          have hol : ∀ (n : Nat) (rem ord o : List Int), topo (qR txs) n rem ord = some o → o.length ≤ ord.length + n := by
            intro n
            induction n with
            | zero => intro rem ord o h; injection h with h; rw [h]; omega
            | succ n ih =>
              intro rem ord o h
              unfold topo at h
              split at h
              · cases h
              · split at h
                · have := ih _ _ _ h
                  simp at this
                  omega
                · cases h
          have := hol _ _ _ _ ho
          simp only [Bool.not_true, Bool.false_eq_true, if_false, List.length_nil] at this ⊢
          have e3 : ((0 : Int) == 0) = true := rfl
          rw [if_pos e3, d22_self hN (by unfold small; omega)]
          rfl
      · simp only []
        obtain ⟨hv1, hv2⟩ := hv
        have hle : s.1.length ≤ 1600 := Nat.le_trans hv1 (Nat.mul_le_mul (show k ≤ 40 by omega) h40)
        obtain ⟨x, hx⟩ := getAt (show k < adm.length by omega)
        rw [if_pos (by omega : (k : Int) < (txs.length : Int)), hin k hk s.1 hle, Option.bind_some, idx_nat hx, Option.bind_some, getD_at hx]
        cases x with
        | true => rw [if_pos rfl, if_pos rfl, appL_of (by simp only [List.length_cons, List.length_nil]; exact Nat.le_trans (Nat.mul_le_mul_right 8 (show s.2.length + (0 + 1) ≤ 1700 by omega)) (by decide)), Option.bind_some, chkI_succ hk (show txs.length < 9223372036854775807 by omega), Option.bind_some]
        | false => rw [if_neg (by simp), if_neg (by simp), chkI_succ hk (show txs.length < 9223372036854775807 by omega), Option.bind_some, List.append_nil]
      · injection hb with hb
        have := row_len txs adm k
        rw [← hb, Nat.add_mul]
        simp only [List.length_append]
        split <;> simp <;> omega
      · simp
    · have e0 : ((0 : Int) == 0) = true := rfl
      have e1 : ((adm.length : Int) != (txs.length : Int)) = true := by simp; omega
      rw [if_neg (show ¬ (checkT txs ≠ 0) by simp [hc]), if_pos (show adm.length ≠ txs.length from hl), if_neg (show ¬ (checkT txs ≠ 0) by simp [hc]), if_pos (show adm.length ≠ txs.length from hl), hc]
      rw [if_pos e0, e1]
      rfl
  · have e0 : (checkT txs == 0) = false := by simp [hc]
    have e1 : (checkT txs != 0) = true := by simp [hc]
    rw [if_pos (show checkT txs ≠ 0 from hc), if_pos (show checkT txs ≠ 0 from hc), e0]
    simp [e1, hc]
end Go.Proofs.Ytabjbkdlacibjaa
