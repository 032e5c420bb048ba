/- The functional program of ConflictGraph yields true. Plain lists. -/
import Derived.Test.YtabjbkdlacibjaaCgP2
namespace Go.Proofs.Ytabjbkdlacibjaa
open Go.Ab Go.Rp

theorem d55_eq {N : Nat} (hN : bigN N) {xs : List Op27} (hs : small xs) : d55 N xs = some (txs xs) := by
  unfold d55
  have hloop := iter_rangeI 20 (fun (l : List Int) (v : Int) => (l, v)) (fun ((l7, v8) : ((List Int) × Int)) =>
      if v8 < 20 then (d81 N xs (fun b0 => d85 N b0 v8)).bind fun r25 =>
        if r25 = true then (appL 8 l7 [v8]).bind fun _ => (chkI (v8 + 1)).bind fun v28 => some (.inl ((l7 ++ [v8]), v28))
        else (chkI (v8 + 1)).bind fun v29 => some (.inl (l7, v29))
      else some (.inr l7))
    (fun v l => .inl (if (xs.any fun x => x.Tx == (v : Int)) = true then l ++ [(v : Int)] else l)) (fun l => l) (fun k l => l.length ≤ k) (fun k s hk hv => ?_) (fun k s s' hk hv hb => ?_) (fun s hv => ?_) (n := N) (by unfold bigN at hN; omega) [] (Nat.le_refl _)
  · rw [listFor_fold, foldI_collect (fun v => xs.any fun x => x.Tx == (v : Int)) (fun v => (v : Int))] at hloop
    refine Eq.trans (congrArg (fun o => Option.bind o _) hloop) ?_
    rfl
  · simp only []
    have happ : appL 8 s [(k : Int)] = some (s ++ [(k : Int)]) := appL_of (by simp only [List.length_cons, List.length_nil]; exact Nat.le_trans (Nat.mul_le_mul_right 8 (show s.length + (0 + 1) ≤ 21 by omega)) (by decide))
    rw [if_pos (by omega : (k : Int) < 20), show (d81 N xs fun b0 => d85 N b0 (k : Int)) = some (xs.any fun x => x.Tx == (k : Int)) from d81_eq hN hs (fun x _ => rfl), Option.bind_some]
    cases xs.any fun x => x.Tx == (k : Int) with
    | true => rw [if_pos rfl, if_pos rfl, happ, Option.bind_some, chkI_20 hk, Option.bind_some]
    | false => rw [if_neg (by simp), if_neg (by simp), chkI_20 hk, Option.bind_some]
  · injection hb with hb
    rw [← hb]
    split
    · simp; omega
    · omega
  · simp
theorem d16_eq {N : Nat} (hN : bigN N) {xs : List Op27} (hs : small xs) : d16 N xs = some (if checkH xs ≠ 0 then ([], checkH xs) else (txs xs, 0)) := by
  unfold d16
  rw [d18_eq hN hs, Option.bind_some]
  by_cases hc : checkH xs = 0
  · rw [if_neg (show ¬ ((checkH xs != 0) = true) by simp [hc]), if_neg (show ¬ (checkH xs ≠ 0) by simp [hc]), d55_eq hN hs, Option.bind_some]
  · rw [if_pos (show (checkH xs != 0) = true by simp [hc]), if_pos (show checkH xs ≠ 0 from hc)]

/-- a row of edges, gathered -/
theorem row_loop {N : Nat} (hN : bigN N) (g : Nat → Nat → Bool) (s : Nat) (acc : List S43) (hacc : acc.length ≤ 400) (cond : Int → Option Bool) (hcond : ∀ t : Nat, t < 20 → cond t = some (g s t)) :
    iterN (σ := ((List S43) × Int)) (ρ := List S43) (fun ((l126, v127) : ((List S43) × Int)) =>
      if v127 < 20 then (cond v127).bind fun (b : Bool) =>
        if b = true then (appL 16 l126 [(S43.mk s v127)]).bind fun _ => (chkI (v127 + 1)).bind fun v150 => some (.inl ((l126 ++ [(S43.mk s v127)]), v150))
        else (chkI (v127 + 1)).bind fun v151 => some (.inl (l126, v151))
      else some (.inr l126)) N (acc, 0) = some (acc ++ row g s) := by
  have hloop := iter_rangeI 20 (fun (l : List S43) (v : Int) => (l, v)) (fun ((l126, v127) : ((List S43) × Int)) =>
      if v127 < 20 then (cond v127).bind fun (b : Bool) =>
        if b = true then (appL 16 l126 [(S43.mk s v127)]).bind fun _ => (chkI (v127 + 1)).bind fun v150 => some (.inl ((l126 ++ [(S43.mk s v127)]), v150))
        else (chkI (v127 + 1)).bind fun v151 => some (.inl (l126, v151))
      else some (.inr l126))
    (fun t l => .inl (if g s t = true then l ++ [S43.mk s t] else l)) (fun l => l) (fun k l => l.length ≤ 400 + k) (fun k l hk hv => ?_) (fun k l l' hk hv hb => ?_) (fun s hv => ?_) (n := N) (by unfold bigN at hN; omega) acc hacc
  · rw [listFor_fold, foldI_collect (g s) (fun t => S43.mk (s : Int) (t : Int))] at hloop
    exact hloop
  · simp only []
    have happ : appL 16 l [S43.mk (s : Int) (k : Int)] = some (l ++ [S43.mk (s : Int) (k : Int)]) := appL_of (by simp only [List.length_cons, List.length_nil]; exact Nat.le_trans (Nat.mul_le_mul_right 16 (show l.length + (0 + 1) ≤ 421 by omega)) (by decide))
    rw [if_pos (by omega : (k : Int) < 20), hcond k hk, Option.bind_some]
    cases g s k with
    | true => rw [if_pos rfl, if_pos rfl, happ, Option.bind_some, chkI_20 hk, Option.bind_some]
    | false => rw [if_neg (by simp), if_neg (by simp), chkI_20 hk, Option.bind_some]
  · injection hb with hb
    rw [← hb]
    split
    · simp; omega
    · omega
  · simp
theorem edges_loop {N : Nat} (hN : bigN N) (g : Nat → Nat → Bool) (inner : List S43 → Int → Option (List S43)) (hin : ∀ (s : Nat) (acc : List S43), s < 20 → acc.length ≤ 400 → inner acc s = some (acc ++ row g s)) :
    iterN (σ := ((List S43) × Int)) (ρ := List S43) (fun ((l40, v41) : ((List S43) × Int)) =>
      if v41 < 20 then (inner l40 v41).bind fun (l144 : List S43) => (chkI (v41 + 1)).bind fun v152 => some (.inl (l144, v152))
      else some (.inr l40)) N (([] : List S43), 0) = some (edgesTo g 20) := by
  have hloop := iter_rangeI 20 (fun (l : List S43) (v : Int) => (l, v)) (fun ((l40, v41) : ((List S43) × Int)) =>
      if v41 < 20 then (inner l40 v41).bind fun (l144 : List S43) => (chkI (v41 + 1)).bind fun v152 => some (.inl (l144, v152))
      else some (.inr l40))
    (fun s l => .inl (l ++ row g s)) (fun l => l) (fun k l => l.length ≤ 20 * k) (fun k l hk hv => ?_) (fun k l l' hk hv hb => ?_) (fun s hv => ?_) (n := N) (by unfold bigN at hN; omega) [] (Nat.le_refl _)
  · rw [listFor_fold, fold_edges] at hloop
    exact hloop
  · simp only []
    rw [if_pos (by omega : (k : Int) < 20), hin k l hk (by omega), Option.bind_some, chkI_20 hk, Option.bind_some]
  · injection hb with hb
    have := row_len g k
    rw [← hb, List.length_append]
    omega
  · simp

theorem d17_eq {N : Nat} (hN : bigN N) {xs : List Op27} (hs : small xs) : d17 N xs = some (if checkH xs ≠ 0 then ([], checkH xs) else (edgesTo (pN xs) 20, 0)) := by
  unfold d17
  rw [d18_eq hN hs, Option.bind_some]
  by_cases hc : checkH xs = 0
  · rw [if_neg (show ¬ ((checkH xs != 0) = true) by simp [hc]), if_neg (show ¬ (checkH xs ≠ 0) by simp [hc]), d56_eq hN hc, Option.bind_some]
    rw [lenL_zero, Option.bind_some, lenL_tab, Option.bind_some]
    have h := edges_loop hN (pN xs) (fun acc s => (arrI s 20).bind fun k118 => (subL (tab (pN xs)) (k118 * 20) 20).bind fun l119 =>
        iterN (σ := ((List S43) × Int)) (ρ := List S43) (fun ((l126, v127) : ((List S43) × Int)) =>
          if v127 < 20 then (arrI v127 20).bind fun k146 => (l119[k146]?).bind fun x147 =>
            if x147 = true then (appL 16 l126 [(S43.mk s v127)]).bind fun _ => (chkI (v127 + 1)).bind fun v150 => some (.inl ((l126 ++ [(S43.mk s v127)]), v150))
            else (chkI (v127 + 1)).bind fun v151 => some (.inl (l126, v151))
          else some (.inr l126)) N (acc, 0)) (fun s acc hs20 hacc => ?_)
    · refine Eq.trans (congrArg (fun o => Option.bind o _) (Eq.trans (congrArg (fun f => iterN f N (([] : List S43), (0 : Int))) ?_) h)) ?_
      · funext p
        obtain ⟨l40, v41⟩ := p
        simp only [Option.bind_assoc]
      · rfl
    · simp only []
      rw [arrI_nat hs20, Option.bind_some]
      unfold subL
      rw [if_pos (by rw [tab_len]; omega), Option.bind_some]
      have h := row_loop hN (pN xs) s acc hacc (fun v => (arrI v 20).bind fun k => ((tab (pN xs)).drop (s * 20) |>.take 20)[k]?) (fun t ht => by
        rw [arrI_nat ht, Option.bind_some, List.getElem?_take, if_pos ht, List.getElem?_drop, tab_get _ hs20 ht])
      refine Eq.trans (congrArg (fun f => iterN f N (acc, (0 : Int))) ?_) h
      funext p
      obtain ⟨l, v⟩ := p
      simp only [Option.bind_assoc]
  · rw [if_pos (show (checkH xs != 0) = true by simp [hc]), if_pos (show checkH xs ≠ 0 from hc)]

theorem d22_self {N : Nat} (hN : bigN N) {xs : List Int} (hs : small xs) : d22 N xs xs = some true := by
  have h := equal_eq N xs xs (fun x y => x != y) (fun x y => by simp) (hs.lt hN) hs
  refine Eq.trans h ?_
  simp
theorem d24_self {N : Nat} (hN : bigN N) {xs : List S43} (hs : small xs) : d24 N xs xs = some true := by
  have : DecidableEq S43 := fun a b => decidable_of_iff (beqS43 a b = true) (beqS43_iff a b)
  have h := equal_eq N xs xs (fun x y => !beqS43 x y) (fun x y => by
    rw [Bool.not_eq_true', ← Bool.not_eq_true, not_congr (beqS43_iff x y)]) (hs.lt hN) hs
  refine Eq.trans h ?_
  simp

theorem d4_true {N : Nat} (hN : bigN N) (h15 : d15 N = some true) {xs : List Op27} (hz : xs.length * 32 ≤ reach) : d4 N xs = some true := by
  have hs : small xs := by unfold small; unfold reach at hz; omega
  unfold d4
  rw [h15, Option.bind_some, if_neg (by simp), d11_eq hN hz, Option.bind_some, d16_eq hN hs, Option.bind_some, d17_eq hN hs, Option.bind_some, d12_eq hN hs, Option.bind_some, d18_eq hN hs, Option.bind_some]
  by_cases hc : checkH xs = 0
  · have h200 := len_of hc
    have hkind := kind_of hc
    rw [if_neg (show ¬ (checkH xs ≠ 0) by simp [hc]), if_neg (show ¬ (checkH xs ≠ 0) by simp [hc]), hc]
    rw [if_neg (show ¬ (((0 : Int) != 0) = true) by simp), if_neg (show ¬ (((0 : Int) != 0) = true) by simp), Option.bind_some, if_neg (show ¬ (((0 : Int) != 0) = true) by simp), if_neg (show ¬ (((0 : Int) != 0) = true) by simp)]
    have h := edges_loop hN (pN xs) (fun acc s =>
        iterN (σ := ((List S43) × Int)) (ρ := List S43) (fun ((l176, v177) : ((List S43) × Int)) =>
          if v177 < 20 then
            Option.bind (α := Bool) (if (s != v177) = true then (d19 N xs s v177).bind fun r206 => some r206 else some false) fun (v204 : Bool) =>
            if v204 = true then (appL 16 l176 [(S43.mk s v177)]).bind fun _ => (chkI (v177 + 1)).bind fun v209 => some (.inl ((l176 ++ [(S43.mk s v177)]), v209))
            else (chkI (v177 + 1)).bind fun v210 => some (.inl (l176, v210))
          else some (.inr l176)) N (acc, 0)) (fun s acc hs20 hacc => row_loop hN (pN xs) s acc hacc (fun v177 => if ((s : Int) != v177) = true then (d19 N xs s v177).bind fun r206 => some r206 else some false) (fun t ht => by
        show (if ((s : Int) != (t : Int)) = true then (d19 N xs s t).bind fun r206 => some r206 else some false) = _
        rw [d19_eq hN hc, Option.bind_some]
        by_cases hst : s = t
        · have : pL (s : Int) (t : Int) xs = false := by
            rw [Bool.eq_false_iff]
            intro hp
            exact pL_ne _ _ _ hp (by rw [hst])
          rw [if_neg (by simp [hst])]
          exact congrArg some this.symm
        · rw [if_pos (by simp; omega)]
          rfl))
    refine Eq.trans (congrArg (fun o => Option.bind o _) h) ?_
    have hlast := iter_list (xs.drop 1) (fun (_ : Unit) (v : Int) => 1 + v) (fun (v226 : Int) =>
        if v226 < (xs.length : Int) then (chkI (v226 - 1)).bind fun v257 => (idx xs v257).bind fun x258 => (idx xs v226).bind fun x260 => (d20 N x258 x260).bind fun r262 =>
          (chkI (v226 - 1)).bind fun v263 => (idx xs v263).bind fun x264 => (idx xs v226).bind fun x266 => (d21 N x264 x266).bind fun r267 =>
          if (!(r262 == r267)) = true then some (.inr (.ret false)) else (chkI (v226 + 1)).bind fun v269 => some (.inl v269)
        else some (.inr (.go () : Out Unit Bool)))
      (fun _ _ _ => .inl ()) (fun _ => .go ()) (fun j y _ hy hj => ?_) (fun _ => ?_) (n := N) (by rw [List.length_drop]; unfold bigN at hN; omega) ()
    · rw [listFor_fold, show (1 : Int) + 0 = 1 from rfl] at hlast
      rw [Option.bind_some]
      refine Eq.trans (congrArg (fun o => bindO o _) hlast) ?_
      show Option.bind (Option.bind (d23 N xs) _) _ = _
      rw [d23_eq hN hs, Option.bind_some]
      show Option.bind (Option.bind (d22 N (txs xs) (txs xs)) _) _ = _
      have h1 := txs_len xs
      have h2 := edgesTo_len (pN xs) 20
      rw [d22_self hN (by unfold small; omega), Option.bind_some, if_pos rfl]
      show Option.bind (Option.bind (d24 N (edgesTo (pN xs) 20) (edgesTo (pN xs) 20)) _) _ = _
      rw [d24_self hN (by unfold small; omega)]
      rfl
    · rw [List.getElem?_drop] at hy
      rw [List.length_drop] at hj
      have hjl : 1 + j < xs.length := by omega
      obtain ⟨x, hx⟩ := getAt (show j < xs.length by omega)
      have ey : idx xs (1 + (j : Int)) = some y := by
        rw [show 1 + (j : Int) = ((1 + j : Nat) : Int) by omega]
        exact idx_nat hy
      rw [if_pos (by omega), show 1 + (j : Int) - 1 = (j : Int) by omega, chkI_of (show (-9223372036854775808 : Int) ≤ (j : Int) by omega) (by omega), Option.bind_some, idx_nat hx, Option.bind_some, ey, Option.bind_some, d20_eq, Option.bind_some, Option.bind_some, idx_nat hx, Option.bind_some, Option.bind_some, d21_eq N (hkind x (List.mem_of_getElem? hx)) (hkind y (List.mem_of_getElem? hy)), Option.bind_some, if_neg (by simp), chkI_of (by omega) (by omega), Option.bind_some, show 1 + (j : Int) + 1 = 1 + ((j : Int) + 1) by omega]
    · rw [List.length_drop, if_neg (by omega)]
  · rw [if_pos (show checkH xs ≠ 0 from hc), if_pos (show checkH xs ≠ 0 from hc)]
    rw [if_neg (show ¬ ((checkH xs != checkH xs) = true) by simp), if_neg (show ¬ ((checkH xs != checkH xs) = true) by simp), Option.bind_some, if_neg (show ¬ ((checkH xs != checkH xs) = true) by simp), if_pos (show (checkH xs != 0) = true by simp [hc])]
    rfl
end Go.Proofs.Ytabjbkdlacibjaa
