/- The functional program of ReadsFrom yields true. Plain lists. -/
import Derived.Test.YtabjbkdlacibjaaRfP2
namespace Go.Proofs.Ytabjbkdlacibjaa
open Go.Ab Go.Rp

theorem d22_self {N : Nat} (hN : bigN N) {xs : List Int} (hs : small xs) : d22 N xs xs = some true := by
  have h := equal_eq N xs xs (fun x y => x != y) (fun x y => by simp) (hs.lt hN) hs
  refine Eq.trans h ?_
  simp
theorem d27_self {N : Nat} (hN : bigN N) {xs : List Op27} (hs : small xs) : d27 N xs xs = some true := by
  have : DecidableEq Op27 := fun a b => decidable_of_iff (beqS27 a b = true) (beqS27_iff a b)
  have h := equal_eq N xs xs (fun x y => !beqS27 x y) (fun x y => by
    rw [Bool.not_eq_true', ← Bool.not_eq_true, not_congr (beqS27_iff x y)]) (hs.lt hN) hs
  refine Eq.trans h ?_
  simp

def optL (v : Int) : Option Int := if v = -1 then none else some v
theorem lastTo_succ {xs : List Op27} {k : Nat} {x : Op27} (hx : xs[k]? = some x) (key : ByteArray) : lastTo xs key (k + 1) = if (x.Kind == 2 && decide (x.Key = key)) = true then (k : Int) else lastTo xs key k := by
  rw [lastTo, hx]
/-- the expected sources, by a map of the last writes -/
theorem exp_eq {N : Nat} (hN : bigN N) {xs : List Op27} (hc : checkH xs = 0) :
    iterN (σ := ((List (ByteArray × Int)) × (List Int) × Int)) (ρ := List Int) (fun ((m31, l32, v33) : ((List (ByteArray × Int)) × (List Int) × Int)) =>
      if v33 < (xs.length : Int) then (idx xs v33).bind fun x71 =>
        letv ((mget m31 x71.Key).getD 0) fun v73 =>
        letv (mget m31 x71.Key).isSome fun v74 =>
        Option.bind (α := Bool) (if (x71.Kind == 2) = true then some true else some (!v74)) fun (v76 : Bool) =>
        Option.bind (α := Int) (if v76 = true then some (-1) else some v73) fun (v79 : Int) =>
        if (x71.Kind == 2) = true then (appL 8 l32 [v79]).bind fun _ => (chkI (v33 + 1)).bind fun v83 => some (.inl ((mput m31 x71.Key v33), (l32 ++ [v79]), v83))
        else (appL 8 l32 [v79]).bind fun _ => (chkI (v33 + 1)).bind fun v85 => some (.inl (m31, (l32 ++ [v79]), v85))
      else some (.inr l32)) N (([] : List (ByteArray × Int)), ([] : List Int), 0) = some (srcsTo xs xs.length) := by
  have h200 := len_of hc
  have hkind := kind_of hc
  have hs : small xs := by unfold small; omega
  have hloop := iter_listI xs (fun (p : (List (ByteArray × Int)) × List Int) (v : Int) => (p.1, p.2, v)) (fun ((m31, l32, v33) : ((List (ByteArray × Int)) × (List Int) × Int)) =>
      if v33 < (xs.length : Int) then (idx xs v33).bind fun x71 =>
        letv ((mget m31 x71.Key).getD 0) fun v73 =>
        letv (mget m31 x71.Key).isSome fun v74 =>
        Option.bind (α := Bool) (if (x71.Kind == 2) = true then some true else some (!v74)) fun (v76 : Bool) =>
        Option.bind (α := Int) (if v76 = true then some (-1) else some v73) fun (v79 : Int) =>
        if (x71.Kind == 2) = true then (appL 8 l32 [v79]).bind fun _ => (chkI (v33 + 1)).bind fun v83 => some (.inl ((mput m31 x71.Key v33), (l32 ++ [v79]), v83))
        else (appL 8 l32 [v79]).bind fun _ => (chkI (v33 + 1)).bind fun v85 => some (.inl (m31, (l32 ++ [v79]), v85))
      else some (.inr l32))
    (fun k x p => .inl (if (x.Kind == 2) = true then mput p.1 x.Key (k : Int) else p.1, p.2 ++ [srcAt xs k])) (fun p => p.2)
    (fun k p => p.2.length = k ∧ ∀ key, mget p.1 key = optL (lastTo xs key k)) (fun k x s hx hk hv => ?_) (fun k x s s' hx hk hv hb => ?_) (fun s hv => ?_) (hs.lt hN) ([], []) ⟨rfl, fun key => by simp [mget_nil, lastTo, optL]⟩
  · refine Eq.trans hloop ?_
    rw [listFor_fold]
    have key : ∀ (ys : List Op27) (k : Nat) (p : (List (ByteArray × Int)) × List Int), p.2 = srcsTo xs k → (foldI (fun k (x : Op27) p => (if (x.Kind == 2) = true then mput p.1 x.Key (k : Int) else p.1, p.2 ++ [srcAt xs k])) ys k p).2 = srcsTo xs (k + ys.length) := by
      intro ys
      induction ys with
      | nil => intro k p h; exact h
      | cons y ys ih =>
        intro k p h
        rw [foldI, List.length_cons, show k + (ys.length + 1) = k + 1 + ys.length by omega]
        exact ih (k + 1) _ (by rw [h]; rfl)
    rw [key xs 0 _ rfl, Nat.zero_add]
  · simp only []
    obtain ⟨hv1, hv2⟩ := hv
    have hb : (s.2.length + 1) * 8 ≤ reach := Nat.le_trans (Nat.mul_le_mul_right 8 (show s.2.length + 1 ≤ 201 by omega)) (by decide)
    rw [if_pos (by omega : (k : Int) < (xs.length : Int)), idx_nat hx, Option.bind_some, letv_eq, letv_eq, hv2]
    have hsrc : srcAt xs k = if (x.Kind == 1) = true then lastTo xs x.Key k else -1 := by unfold srcAt; rw [hx]
    have hkx := hkind x (List.mem_of_getElem? hx)
    by_cases h2 : (x.Kind == 2) = true
    · have h1 : ¬ ((x.Kind == 1) = true) := by
        simp at h2 ⊢
        omega
      rw [hsrc, if_neg h1, if_pos h2, Option.bind_some, if_pos rfl, Option.bind_some, if_pos h2, if_pos h2, appL_of (by simpa using hb), Option.bind_some, chkI_succ hk hs, Option.bind_some]
    · have h1 : (x.Kind == 1) = true := by
        simp [badKind] at hkx h2 ⊢
        omega
      rw [hsrc, if_pos h1, if_neg h2, Option.bind_some, if_neg h2]
      have e : (if (!(optL (lastTo xs x.Key k)).isSome) = true then some (-1) else some ((optL (lastTo xs x.Key k)).getD 0)) = some (lastTo xs x.Key k) := by
        unfold optL
        by_cases h : lastTo xs x.Key k = -1
        · simp [h]
        · simp [h]
      rw [e, Option.bind_some, if_neg h2, appL_of (by simpa using hb), Option.bind_some, chkI_succ hk hs, Option.bind_some]
  · injection hb with hb
    obtain ⟨hv1, hv2⟩ := hv
    rw [← hb]
    refine ⟨by simp [hv1], fun key => ?_⟩
    rw [lastTo_succ hx]
    show mget (if (x.Kind == 2) = true then mput s.1 x.Key (k : Int) else s.1) key = _
    by_cases h2 : (x.Kind == 2) = true
    · rw [if_pos h2, mget_put, h2]
      by_cases hk : x.Key = key
      · rw [if_pos hk, if_pos (by simp [hk])]
        unfold optL
        rw [if_neg (by omega)]
      · rw [if_neg hk, if_neg (by simp [hk]), hv2]
    · rw [if_neg h2, if_neg (by simp [h2]), hv2]
  · simp

theorem d5_true {N : Nat} (hN : bigN N) (h15 : d15 N = some true) {xs : List Op27} (hz : xs.length * 32 ≤ reach) {ord : List Int} (ho : small ord) : d5 N xs ord = some true := by
  have hs : small xs := by unfold small; unfold reach at hz; omega
  unfold d5
  rw [h15, Option.bind_some, if_neg (by simp), d11_eq hN hz, Option.bind_some, d25_eq hN hs, Option.bind_some, d26_eq hN hs ho, Option.bind_some, d12_eq hN hs, Option.bind_some]
  by_cases hc : checkH xs = 0
  · have h200 := len_of hc
    rw [if_neg (show ¬ ((checkH xs != 0) = true) by simp [hc]), if_neg (show ¬ (checkH xs ≠ 0) by simp [hc])]
    rw [exp_eq hN hc, Option.bind_some]
    rw [if_neg (by simp), d22_self hN (by unfold small; rw [srcsTo_len]; omega), Option.bind_some, Option.bind_some, if_neg (by simp)]
    have e5 : serR xs ord = match ser xs ord ord 0 [] with
      | none => ([], 5)
      | some l => if l.length ≠ xs.length then ([], 4) else (l, 0) := by
      unfold serR
      rw [if_neg (show ¬ (checkH xs ≠ 0) by simp [hc])]
      cases ser xs ord ord 0 [] <;> rfl
    generalize hR : serR xs ord = R at e5
    have hloop := iter_listI ord (fun (p : List Op27 × List (Int × Bool)) (v : Int) => (p.1, p.2, v)) (fun ((l133, m134, v135) : ((List S27) × (List (Int × Bool)) × Int)) =>
        if v135 < (ord.length : Int) then (idx ord v135).bind fun x225 => letv ((mget m134 x225).getD false) fun v227 =>
          if v227 = true then Option.bind (α := Bool) (if (R.2 == 5) = true then some ((R.1.length : Int) == 0) else some false) fun (v230 : Bool) => some (.inr (Out.ret v230))
          else Option.bind (α := List S27) (iterN (σ := ((List S27) × Int)) (ρ := List S27) (fun ((l239, v240) : ((List S27) × Int)) =>
            if v240 < (xs.length : Int) then (idx xs v240).bind fun x259 =>
              if (x259.Tx == x225) = true then (appL 32 l239 [x259]).bind fun _ => (chkI (v240 + 1)).bind fun v263 => some (.inl ((l239 ++ [x259]), v263))
              else (chkI (v240 + 1)).bind fun v264 => some (.inl (l239, v264))
            else some (.inr l239)) N (l133, 0)) fun (l257 : List S27) =>
          (chkI (v135 + 1)).bind fun v265 => some (.inl (l257, (mput m134 x225 true), v265))
        else some (.inr (Out.go l133)))
      (fun k t p => if ((ord.take k).any fun x => t == x) = true then .inr (Out.ret (R.2 == 5 && ((R.1.length : Int) == 0))) else .inl (p.1 ++ pick xs t, mput p.2 t true)) (fun p => Out.go p.1)
      (fun k p => p.1.length = cnt xs (ord.take k) ∧ ∀ y, (mget p.2 y).getD false = (ord.take k).any fun x => y == x) (fun k x s hx hk hv => ?_) (fun k x s s' hx hk hv hb => ?_) (fun s hv => ?_) (ho.lt hN) ([], []) ⟨by rw [List.take_zero]; unfold cnt; simp, fun y => by simp [mget_nil]⟩
    · refine Eq.trans (congrArg (fun o => bindO o _) hloop) ?_
      have key : ∀ (r : List Int) (k : Nat) (p : List Op27 × List (Int × Bool)), listFor (fun k t p => if ((ord.take k).any fun x => t == x) = true then .inr (Out.ret (R.2 == 5 && ((R.1.length : Int) == 0))) else .inl (p.1 ++ pick xs t, mput p.2 t true)) (fun p => (Out.go p.1 : Out (List Op27) Bool)) r k p = match ser xs ord r k p.1 with
          | none => .ret (R.2 == 5 && ((R.1.length : Int) == 0))
          | some l => .go l := by
        intro r
        induction r with
        | nil => intro k l; rfl
        | cons t r ih =>
          intro k l
          unfold listFor ser
          cases (ord.take k).any fun x => t == x with
          | true => rfl
          | false => exact ih (k + 1) _
      rw [key]
      have hl := fun l => ser_len xs ord ord 0 [] l (fun j y hy => by rw [Nat.zero_add]; exact hy) (by rw [List.take_zero]; unfold cnt; simp)
      cases hser : ser xs ord ord 0 [] with
      | none =>
        rw [hser] at e5
        rw [e5]
        rfl
      | some l =>
        have hll := hl l hser
        rw [hser] at e5
        show (if (l.length : Int) < (xs.length : Int) then _ else _) = _
        by_cases h : l.length = xs.length
        · have e5 : R = (l, 0) := by rw [e5]; simp [h]
          rw [if_neg (by omega), e5]
          show Option.bind (Option.bind (d27 N l l) _) _ = _
          rw [d27_self hN (by unfold small; omega)]
          rfl
        · have e5 : R = ([], 4) := by rw [e5]; simp [h]
          rw [if_pos (by omega), e5]
          rfl
    · simp only []
      obtain ⟨hv1, hv2⟩ := hv
      have hle : s.1.length ≤ 200 := by rw [hv1]; exact Nat.le_trans (cnt_le _ _) h200
      rw [if_pos (by omega : (k : Int) < (ord.length : Int)), idx_nat hx, Option.bind_some, letv_eq, hv2]
      by_cases hd : ((ord.take k).any fun y => x == y) = true
      · rw [if_pos hd, if_pos hd]
        cases R.2 == 5 <;> rfl
      · rw [if_neg hd, if_neg hd, pick_eq hN hs x s.1 (Nat.le_trans (Nat.mul_le_mul_right 32 (show s.1.length + xs.length ≤ 400 by omega)) (by decide)), Option.bind_some, chkI_succ hk ho, Option.bind_some]
    · split at hb
      · cases hb
      · rename_i hn
        injection hb with hb
        obtain ⟨hv1, hv2⟩ := hv
        rw [← hb, any_take (t := x) hx]
        refine ⟨by rw [List.length_append, hv1, cnt_add _ _ _ (Bool.eq_false_iff.2 hn)], fun y => ?_⟩
        show (mget (mput s.2 x true) y).getD false = _
        rw [mget_put, List.any_append]
        by_cases hxy : x = y
        · simp [hxy]
        · have : (y == x) = false := by simp; exact fun h => hxy h.symm
          rw [if_neg hxy, hv2]
          simp [this]
    · simp
  · have e5 : serR xs ord = ([], checkH xs) := by
      unfold serR
      rw [if_pos hc]
    rw [if_pos (show (checkH xs != 0) = true by simp [hc]), if_pos (show checkH xs ≠ 0 from hc), e5]
    simp
end Go.Proofs.Ytabjbkdlacibjaa
