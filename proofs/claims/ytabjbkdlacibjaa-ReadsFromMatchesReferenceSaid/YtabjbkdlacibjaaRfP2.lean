/- The functional programs of ReadsFrom: serialised histories. Plain lists. -/
import Derived.Test.YtabjbkdlacibjaaRfP1
namespace Go.Proofs.Ytabjbkdlacibjaa
open Go.Ab Go.Rp

theorem d86_eq {N : Nat} (hN : bigN N) {xs : List Int} (hs : small xs) (y : Int) : d86 N xs y = some (optI (xs.findIdx? fun x => y == x)) :=
  indexFunc_eq N xs (fun x => some (y == x)) (fun x => y == x) (fun _ _ => rfl) (hs.lt hN) hs
theorem d57_eq {N : Nat} (hN : bigN N) {xs : List Int} (hs : small xs) (y : Int) : d57 N xs y = some (xs.any fun x => y == x) := by
  unfold d57
  rw [d86_eq hN hs, Option.bind_some, optI_ge]

/-- the operations of one transaction -/
def pick (xs : List Op27) (t : Int) : List Op27 := xs.filter fun x => x.Tx == t
/-- the operations of some transactions, counted -/
def cnt (xs : List Op27) (ts : List Int) : Nat := xs.countP fun x => ts.any fun t => x.Tx == t
theorem cnt_le (xs : List Op27) (ts : List Int) : cnt xs ts ≤ xs.length := List.countP_le_length
theorem cnt_add (xs : List Op27) (ts : List Int) (t : Int) (h : (ts.any fun x => t == x) = false) : cnt xs (ts ++ [t]) = cnt xs ts + (pick xs t).length := by
  unfold cnt pick
  rw [← List.countP_eq_length_filter]
  induction xs with
  | nil => rfl
  | cons x xs ih =>
    rw [List.countP_cons, List.countP_cons, List.countP_cons, ih]
    by_cases hx : x.Tx = t
    · have e1 : (ts.any fun y => x.Tx == y) = false := by rw [hx]; exact h
      rw [List.any_append, e1]
      simp [hx]
      omega
    · rw [List.any_append]
      have e2 : (x.Tx == t) = false := by simp [hx]
      simp [e2]
      omega
theorem any_take {ts : List Int} {k : Nat} {t x : Int} (h : ts[k]? = some x) : ts.take (k + 1) = ts.take k ++ [x] := by
  rw [List.take_add_one, h]; rfl

/-- the loop that adds one transaction's operations -/
theorem pick_eq {N : Nat} (hN : bigN N) {xs : List Op27} (hs : small xs) (t : Int) (acc : List Op27) (hz : (acc.length + xs.length) * 32 ≤ reach) :
    iterN (σ := ((List S27) × Int)) (ρ := List S27) (fun ((l144, v145) : ((List S27) × Int)) =>
      if v145 < (xs.length : Int) then (idx xs v145).bind fun x164 =>
        if (x164.Tx == t) = true then (appL 32 l144 [x164]).bind fun _ => (chkI (v145 + 1)).bind fun v168 => some (.inl ((l144 ++ [x164]), v168))
        else (chkI (v145 + 1)).bind fun v169 => some (.inl (l144, v169))
      else some (.inr l144)) N (acc, 0) = some (acc ++ pick xs t) := by
  have h := iter_listI xs (fun (l : List Op27) (v : Int) => (l, v)) (fun ((l144, v145) : ((List S27) × Int)) =>
      if v145 < (xs.length : Int) then (idx xs v145).bind fun x164 =>
        if (x164.Tx == t) = true then (appL 32 l144 [x164]).bind fun _ => (chkI (v145 + 1)).bind fun v168 => some (.inl ((l144 ++ [x164]), v168))
        else (chkI (v145 + 1)).bind fun v169 => some (.inl (l144, v169))
      else some (.inr l144))
    (fun _ x l => .inl (if (x.Tx == t) = true then l ++ [x] else l)) (fun l => l) (fun k l => l.length ≤ acc.length + k) (fun k x s hx hk hv => ?_) (fun k x s s' hx hk hv hb => ?_) (fun s hv => ?_) (hs.lt hN) acc (Nat.le_refl _)
  · rw [h, listFor_fold]
    have key : ∀ (ys : List Op27) (k : Nat) (l : List Op27), foldI (fun _ x l => if (x.Tx == t) = true then l ++ [x] else l) ys k l = l ++ pick ys t := by
      intro ys
      induction ys with
      | nil => intro k l; simp [foldI, pick]
      | cons y ys ih =>
        intro k l
        rw [foldI, ih]
        unfold pick
        rw [List.filter_cons]
        split <;> simp
    rw [key]
  · simp only []
    have hb : (s.length + 1) * 32 ≤ reach := Nat.le_trans (Nat.mul_le_mul_right 32 (show s.length + 1 ≤ acc.length + xs.length by omega)) hz
    rw [if_pos (by omega : (k : Int) < (xs.length : Int)), idx_nat hx, Option.bind_some]
    by_cases ht : (x.Tx == t) = true
    · rw [if_pos ht, if_pos ht, appL_of (by simpa using hb), Option.bind_some, chkI_succ hk hs, Option.bind_some]
    · rw [if_neg ht, if_neg ht, chkI_succ hk hs, Option.bind_some]
  · injection hb with hb
    rw [← hb]
    split
    · simp; omega
    · omega
  · simp

/-- the serialised history; none: a transaction stands twice -/
def ser (xs : List Op27) (ord : List Int) : List Int → Nat → List Op27 → Option (List Op27)
  | [], _, acc => some acc
  | t :: r, k, acc => if ((ord.take k).any fun x => t == x) = true then none else ser xs ord r (k + 1) (acc ++ pick xs t)
theorem ser_len (xs : List Op27) (ord : List Int) : ∀ (r : List Int) (k : Nat) (acc l : List Op27), (∀ j y, r[j]? = some y → ord[k + j]? = some y) → acc.length = cnt xs (ord.take k) → ser xs ord r k acc = some l → l.length ≤ xs.length
  | [], k, acc, l, _, h1, h2 => by
    injection h2 with h2
    rw [← h2, h1]
    exact cnt_le _ _
  | t :: r, k, acc, l, h0, h1, h2 => by
    unfold ser at h2
    split at h2
    · cases h2
    · rename_i hn
      refine ser_len xs ord r (k + 1) _ l (fun j y hy => ?_) ?_ h2
      · have := h0 (j + 1) y (by simpa using hy)
        rw [show k + 1 + j = k + (j + 1) by omega]; exact this
      · have ht : ord[k]? = some t := by simpa using h0 0 t rfl
        rw [any_take (t := t) ht, cnt_add _ _ _ (Bool.eq_false_iff.2 hn), List.length_append, h1]

def serR (xs : List Op27) (ord : List Int) : List Op27 × Int :=
  if checkH xs ≠ 0 then ([], checkH xs) else match ser xs ord ord 0 [] with
    | none => ([], 5)
    | some l => if l.length ≠ xs.length then ([], 4) else (l, 0)

theorem d26_eq {N : Nat} (hN : bigN N) {xs : List Op27} (hs : small xs) {ord : List Int} (ho : small ord) : d26 N xs ord = some (serR xs ord) := by
  unfold d26 serR
  rw [d18_eq hN hs, Option.bind_some]
  by_cases hc : checkH xs = 0
  · rw [if_neg (show ¬ ((checkH xs != 0) = true) by simp [hc]), if_neg (show ¬ (checkH xs ≠ 0) by simp [hc])]
    have h200 := len_of hc
    have hloop := iter_listI ord (fun (l : List Op27) (v : Int) => (l, v)) (fun ((l43, v44) : ((List S27) × Int)) =>
        if v44 < (ord.length : Int) then (idx ord v44).bind fun x131 => (natI v44 ord.length).bind fun n133 => letv (ord.take n133) fun l134 => (d57 N l134 x131).bind fun r135 =>
          if r135 = true then some (.inr (Out.ret (([] : List S27), (5 : Int))))
          else Option.bind (α := List S27) (iterN (σ := ((List S27) × Int)) (ρ := List S27) (fun ((l144, v145) : ((List S27) × Int)) =>
            if v145 < (xs.length : Int) then (idx xs v145).bind fun x164 =>
              if (x164.Tx == x131) = true then (appL 32 l144 [x164]).bind fun _ => (chkI (v145 + 1)).bind fun v168 => some (.inl ((l144 ++ [x164]), v168))
              else (chkI (v145 + 1)).bind fun v169 => some (.inl (l144, v169))
            else some (.inr l144)) N (l43, 0)) fun (l162 : List S27) =>
          (chkI ((n133 : Int) + 1)).bind fun v170 => some (.inl (l162, v170))
        else some (.inr (Out.go l43)))
      (fun k t l => if ((ord.take k).any fun x => t == x) = true then .inr (Out.ret (([] : List S27), (5 : Int))) else .inl (l ++ pick xs t)) (fun l => Out.go l)
      (fun k l => l.length = cnt xs (ord.take k)) (fun k x s hx hk hv => ?_) (fun k x s s' hx hk hv hb => ?_) (fun s hv => ?_) (ho.lt hN) [] (by rw [List.take_zero]; unfold cnt; simp)
    · refine Eq.trans (congrArg (fun o => bindO o _) hloop) ?_
      have key : ∀ (r : List Int) (k : Nat) (l : List Op27), listFor (fun k t l => if ((ord.take k).any fun x => t == x) = true then .inr (.ret (([] : List S27), (5 : Int))) else .inl (l ++ pick xs t)) (fun l => (.go l : Out (List Op27) (List Op27 × Int))) r k l = match ser xs ord r k l with
          | none => .ret ([], 5)
          | some l => .go l := by
        intro r
        induction r with
        | nil => intro k l; rfl
        | cons t r ih =>
          intro k l
          unfold listFor ser
          cases (ord.take k).any fun x => t == x with
          | true => rfl
          | false => exact ih (k + 1) _
      rw [key]
      cases ser xs ord ord 0 [] with
      | none => rfl
      | some l =>
        show (if ((l.length : Int) != (xs.length : Int)) = true then _ else _) = _
        by_cases h : l.length = xs.length
        · rw [if_neg (show ¬ (((l.length : Int) != (xs.length : Int)) = true) by simp [h])]
          simp [h]
        · rw [if_pos (show (((l.length : Int) != (xs.length : Int)) = true) by simp; omega)]
          simp [h]
    · simp only []
      have hle : s.length ≤ 200 := by rw [hv]; exact Nat.le_trans (cnt_le _ _) h200
      rw [if_pos (by omega : (k : Int) < (ord.length : Int)), idx_nat hx, Option.bind_some, natI_nat (by omega), Option.bind_some, letv_eq, d57_eq hN (by unfold small; rw [List.length_take]; unfold small at ho; omega), Option.bind_some]
      by_cases hd : ((ord.take k).any fun y => x == y) = true
      · rw [if_pos hd, if_pos hd]
      · rw [if_neg hd, if_neg hd, pick_eq hN hs x s (Nat.le_trans (Nat.mul_le_mul_right 32 (show s.length + xs.length ≤ 400 by omega)) (by decide)), Option.bind_some, chkI_succ hk ho, Option.bind_some]
    · split at hb
      · cases hb
      · rename_i hn
        injection hb with hb
        rw [← hb, List.length_append, hv, any_take (t := x) hx, cnt_add _ _ _ (Bool.eq_false_iff.2 hn)]
    · simp
  · rw [if_pos (show (checkH xs != 0) = true by simp [hc]), if_pos (show checkH xs ≠ 0 from hc)]
end Go.Proofs.Ytabjbkdlacibjaa
