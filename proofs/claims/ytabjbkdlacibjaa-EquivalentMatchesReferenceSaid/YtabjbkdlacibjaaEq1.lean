/- interleaving.dependent, serializability.Check, stemlaw5.operations. -/
import Derived.Test.YtabjbkdlacibjaaSlices
namespace Go.Proofs.Ytabjbkdlacibjaa
open Go.RowKit Go.Rp

def depS (a b : Op) : Bool := a.tx == b.tx || conflictS a b

set_option maxHeartbeats 400000 in
theorem dependent_is (a b : Op) (w : World) (r : Bool) (hr : depS a b = r) :
    Calls Try.prog 83 #[opV a, opV b] w fun e w' => e = .returned (.bool r) ∧ Below w.heap.size w w' := by
  unfold opV
  cases h1 : (a.tx == b.tx) with
  | true =>
    have h2 : a.tx = b.tx := by simpa using h1
    have hr2 : r = true := by rw [← hr, depS, h1]; rfl
    subst hr2
    clear hr h1
    go_enter Try.func83, Try.ntmps83
    go_wp2_with fail
    go_ret
    exact ⟨rfl, below2 _ _ _⟩
  | false =>
    have hr2 : conflictS a b = r := by rw [← hr, depS, h1]; rfl
    clear hr
    have HR := Rp.hid hr2; clear hr2
    go_enter Try.func83, Try.ntmps83
    go_wp2_with fail
    refine (conflict_is a b _ r HR.out).mono ?_
    rintro e w2 ⟨rfl, hb2⟩
    have HB := Rp.hid ((below2 _ _ _).step hb2); clear hb2
    go_wp2_with fail
    go_ret
    exact ⟨rfl, HB.out⟩

/-- the closure of normalForm: the operation op lies in block b -/
theorem closure82 (a o : Op) (b : Nat) (w : World) (hc : w.heap[b]? = some (.cells #[.int .i64 o.tx, .int .i64 o.kind, .string o.key] 27 (0, 0))) :
    Calls Try.prog 82 (#[opV a] ++ #[.pointer (some ⟨b, 0, none⟩)]) w fun e w' => e = .returned (.bool (depS a o)) ∧ Below w.heap.size w w' := by
  have c0 : w.cell? ⟨b, 0, none⟩ = some (.int .i64 o.tx) := by simp [World.cell?, hc]
  have c1 : w.cell? ⟨b, 1, none⟩ = some (.int .i64 o.kind) := by simp [World.cell?, hc]
  have c2 : w.cell? ⟨b, 2, none⟩ = some (.string o.key) := by simp [World.cell?, hc]
  have hb : b < w.heap.size := World.block_lt_of_cell? w _ c0
  clear hc
  show Calls Try.prog 82 #[opV a, .pointer (some ⟨b, 0, none⟩)] w _
  unfold opV
  go_enter Try.func82, Try.ntmps82
  go_wp2_with fail
  refine (dependent_is a o _ _ rfl).mono ?_
  rintro e w2 ⟨rfl, hb2⟩
  have HB := Rp.hid ((below1 _ _).step hb2); clear hb2
  go_wp2_with fail
  go_ret
  exact ⟨rfl, HB.out⟩

set_option maxHeartbeats 400000 in
theorem check18 (h : List Op) (v : Value) (B : Nat) (w : World) (hv : Rep.is w B h [v]) (hB : B ≤ w.heap.size) (r : Int) (hr : checkH h = r) :
    Calls Try.prog 18 #[v] w fun e w' => e = .returned (.int .i64 r) ∧ Below w.heap.size w w' := by
  obtain ⟨A, cap, hv0, hlen, hcap, h3, h4, h5⟩ := hv
  simp only [List.cons.injEq, and_true] at hv0
  subst hv0
  have H5 := Rp.hid h5; clear h5
  have h3' : h.length * 32 ≤ reach := h3
  unfold reach at h3'
  clear h3 h4 hcap
  unfold checkH at hr
  by_cases hbig : 200 < h.length
  · rw [if_pos hbig] at hr
    subst hr
    go_enter Try.func18, Try.ntmps18
    go_wp2
    go_ret
    exact ⟨rfl, Below.refl _ _⟩
  rw [if_neg hbig] at hr
  have HR := Rp.hid hr; clear hr
  go_enter Try.func18, Try.ntmps18
  go_wp2_with fail
  go_loopw [10] (fun i wr => ∃ (k : Nat), k ≤ h.length ∧ i = .int .i64 k ∧ Hid (firstErr (h.drop k) = r) ∧ Hid (Below w.heap.size w wr)) (fun i _ => h.length - (intOf i).toNat)
  case atStart => exact ⟨0, Nat.zero_le _, rfl, HR.out, Below.refl _ _⟩
  case round =>
    obtain ⟨k, hk, rfl, HE, HL⟩ := hrel
    by_cases hlt : k < h.length
    · obtain ⟨b, off, es, rfl, hb, hes, hc⟩ := H5.out k hlt
      obtain ⟨rfl, ht, hkd, hky⟩ := op_cells hes
      have c0 : wr.cell? ⟨b, off + k * 3, none⟩ = some (.int .i64 h[k].tx) := ((bcell HL.out).1 _ _ (by omega)).trans (hc 0 (by decide))
      have c1 : wr.cell? ⟨b, off + k * 3 + 1, none⟩ = some (.int .i64 h[k].kind) := ((bcell HL.out).1 _ _ (by omega)).trans (hc 1 (by decide))
      have c2 : wr.cell? ⟨b, off + k * 3 + 2, none⟩ = some (.string h[k].key) := ((bcell HL.out).1 _ _ (by omega)).trans (hc 2 (by decide))
      have HE' : Hid ((if opErr h[k] = 0 then firstErr (h.drop (k + 1)) else opErr h[k]) = r) := by
        have := HE.out
        rw [List.drop_eq_getElem_cons hlt] at this
        exact this
      clear hc hes HE
      generalize h[k] = o at *
      obtain ⟨ht1, ht2⟩ := ht
      obtain ⟨hk1, hk2⟩ := hkd
      have hbw : b < wr.heap.size := by have := HL.out.size; omega
      have HL2 : Hid (Below w.heap.size w (wr.alloc (.cells #[.int .i64 o.tx, .int .i64 o.kind, .string o.key] 27))) := HL.out.alloc HL.out.size _
      by_cases q1 : 1 ≤ o.kind ∧ o.kind ≤ 2
      · have E0 : Hid ((if ¬ (0 ≤ o.tx ∧ o.tx ≤ 19) then 1 else if 24 < o.key.size then 2 else firstErr (h.drop (k + 1))) = r) := by
          have := HE'.out
          simp only [opErr, q1, not_true, if_false] at this
          split at this <;> simp_all [Hid] <;> omega
        obtain ⟨q1a, q1b⟩ := q1
        have n12 : (o.kind != 1) = false ∨ ((o.kind != 1) = true ∧ (o.kind != 2) = false) := by
          by_cases hk : o.kind = 1
          · left; simp [hk]
          · right
            have hk' : o.kind = 2 := by omega
            simp [hk']
        by_cases q2 : 0 ≤ o.tx ∧ o.tx ≤ 19
        · by_cases q3 : 24 < o.key.size
          · have E : Hid (r = 2) := by have := E0.out; simp only [q2, q3, not_true, if_false, if_true] at this; exact this.symm
            obtain ⟨q2a, q2b⟩ := q2
            rcases n12 with n1 | ⟨n1, n2⟩
            all_goals
              go_wp2_with fail
              all_goals (go_ret; exact ⟨retI E.out.symm, HL2.out⟩)
          · have E : Hid (firstErr (h.drop (k + 1)) = r) := by have := E0.out; simp only [q2, q3, not_true, if_false, if_true] at this; exact this
            obtain ⟨q2a, q2b⟩ := q2
            rcases n12 with n1 | ⟨n1, n2⟩
            all_goals
              go_wp2_with fail
              all_goals
                go_roundw
                case rel => exact ⟨k + 1, by omega, by go_num, E, HL2⟩
                case measure => simp [intOf]; omega
        · have E : Hid (r = 1) := by have := E0.out; simp only [q2, not_true, if_false, if_true, not_false_eq_true] at this; exact this.symm
          rcases n12 with n1 | ⟨n1, n2⟩ <;> by_cases q2a : o.tx < 0
          all_goals
            have q2b : o.tx < 0 ∨ 19 < o.tx := by omega
            clear q2
            go_wp2_with fail
            all_goals (go_ret; exact ⟨retI E.out.symm, HL2.out⟩)
      · have E : Hid (r = 3) := by have := HE'.out; simp only [opErr, q1, if_false, if_true, not_false_eq_true] at this; exact this.symm
        have n1 : (o.kind != 1) = true := by rw [bne_iff_ne]; omega
        have n2 : (o.kind != 2) = true := by rw [bne_iff_ne]; omega
        clear q1
        go_wp2_with fail
        all_goals (go_ret; exact ⟨retI E.out.symm, HL2.out⟩)
    · have E : Hid (r = 0) := by have := HE.out; rw [List.drop_of_length_le (by omega)] at this; exact this.symm
      go_wp2_with fail
      go_ret
      exact ⟨by rw [E.out]; rfl, HL.out⟩

theorem elem28' : Elem Try.prog 28 27 Op 32 := elem28

set_option maxRecDepth 20000 in
set_option maxHeartbeats 400000 in
theorem operations_is (h : List Op) (v : Value) (B : Nat) (w : World) (hv : Rep.is w B h [v]) (hB : B ≤ w.heap.size) :
    Calls Try.prog 11 #[v] w fun e w' => ∃ v', e = .returned v' ∧ Own w' w.heap.size 27 v' h ∧ Below w.heap.size w w' := by
  obtain ⟨A, cap, hv0, hlen, hcap, h3, h4, h5⟩ := hv
  simp only [List.cons.injEq, and_true] at hv0
  subst hv0
  have H5 := Rp.hid h5; clear h5
  have h3' : h.length * 32 ≤ reach := h3
  have HZ := Rp.hid h3'
  unfold reach at h3'
  clear h3 h4 hcap
  go_enter Try.func11, Try.ntmps11
  go_wp2_with fail
  go_loopw [3, 8] (fun u i wr => ∃ (k : Nat), k ≤ h.length ∧ i = .int .i64 k ∧ Hid (Own wr w.heap.size 27 u (h.take k)) ∧ Hid (Below w.heap.size w wr)) (fun _ i _ => h.length - (intOf i).toNat)
  case atStart => exact ⟨0, Nat.zero_le _, rfl, by rw [List.take_zero]; exact Own.nil _ _ _, Below.refl _ _⟩
  case round =>
    obtain ⟨k, hk, rfl, HO, HL⟩ := hrel
    by_cases hlt : k < h.length
    · obtain ⟨b, off, es, rfl, hb, hes, hc⟩ := H5.out k hlt
      obtain ⟨o, ho⟩ : ∃ o, h[k] = o := ⟨_, rfl⟩
      rw [ho] at hes
      obtain ⟨rfl, ht, hkd, hky⟩ := op_cells hes
      have c0 : wr.cell? ⟨b, off + k * 3, none⟩ = some (.int .i64 o.tx) := ((bcell HL.out).1 _ _ (by omega)).trans (hc 0 (by decide))
      have c1 : wr.cell? ⟨b, off + k * 3 + 1, none⟩ = some (.int .i64 o.kind) := ((bcell HL.out).1 _ _ (by omega)).trans (hc 1 (by decide))
      have c2 : wr.cell? ⟨b, off + k * 3 + 2, none⟩ = some (.string o.key) := ((bcell HL.out).1 _ _ (by omega)).trans (hc 2 (by decide))
      have htk : h.take (k + 1) = h.take k ++ [o] := by rw [List.take_succ_eq_append_getElem hlt, ho]
      have HT := Rp.hid htk; clear htk
      have HES : Hid (∀ w', Flat w' w'.heap.size [o] [.int .i64 o.tx, .int .i64 o.kind, .string o.key]) := fun w' => Flat.one (FlatRep.any hes)
      have hsz := HL.out.size
      have HO2 : Hid (Own ((wr.alloc (.cells #[.int .i64 o.tx, .int .i64 o.kind, .string o.key] 32)).alloc (.cells #[.int .i64 o.tx, .int .i64 o.kind, .string o.key] 27)) w.heap.size 27 u3 (h.take k)) := (HO.out.alloc _).alloc _
      have HCN := Rp.hid (cells_new (wr.alloc (.cells #[.int .i64 o.tx, .int .i64 o.kind, .string o.key] 32)) [.int .i64 o.tx, .int .i64 o.kind, .string o.key] 27 (n := wr.heap.size + 1) (by simp))
      have HB2 := Rp.hid (((HL.out.alloc hsz (.cells #[.int .i64 o.tx, .int .i64 o.kind, .string o.key] 32)).alloc (by simp; omega) (.cells #[.int .i64 o.tx, .int .i64 o.kind, .string o.key] 27)))
      have hlk : (h.take k).length ≤ k := List.length_take_le _ _
      clear hc hes H5 ho
      go_wp2_with (at_builtin; refine wpList_append_rep (α := Op) _ rfl (.tmp 12) (.tmp 20) 28 rfl w.heap.size 27 32 elem28 u3 (h.take k) [o] rfl HO2.out ⟨wr.heap.size + 1, 0, none⟩ 1 rfl _ (HES.out _) HCN.out (by simp only [List.length_singleton]; unfold reach; omega) (by simp; omega) ?_; intro v' w1 hown hg _)
      have hb := HB2.out.trans (grown_below HO2.out hg (by simp; omega))
      have HB3 := Rp.hid hb
      have HO3 : Hid (Own w1 w.heap.size 27 v' (h.take (k + 1))) := by rw [HT.out]; exact hown
      clear hb hg hown
      go_wp2_with fail
      go_roundw
      case rel => exact ⟨k + 1, by omega, by go_num, HO3, HB3⟩
      case measure => simp [intOf]; omega
    · have hk2 : k = h.length := by omega
      have HK := Rp.hid (show h.take k = h by rw [hk2, List.take_length])
      clear hk2
      go_wp2_with fail
      go_ret
      exact ⟨_, rfl, by rw [← HK.out]; exact HO.out, HL.out⟩
end Go.Proofs.Ytabjbkdlacibjaa
