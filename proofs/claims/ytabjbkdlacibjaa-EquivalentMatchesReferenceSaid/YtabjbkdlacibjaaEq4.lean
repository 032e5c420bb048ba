/- The walk of stemref5.NormalForm. -/
import Derived.Test.YtabjbkdlacibjaaEq3
namespace Go.Proofs.Ytabjbkdlacibjaa
open Go.RowKit Go.Rp


theorem nfS_len : ∀ (n : Nat) (l : List Op), (nfS n l).length ≤ n
  | 0, _ => Nat.le_refl _
  | n + 1, l => by
    simp only [nfS]
    split
    · simp
    · have := nfS_len n (l.eraseIdx (bestS l l.length).toNat)
      simp; omega

set_option maxRecDepth 20000 in
set_option maxHeartbeats 1000000 in
theorem normalForm14 (n : Nat) : ∀ (h : List Op) (v : Value) (B : Nat) (w : World), h.length = n → Rep.is w B h [v] → B ≤ w.heap.size → Kinds h → h.length ≤ 200 →
    Calls Try.prog 14 #[v] w fun e w' => ∃ v', e = .returned v' ∧ Own w' w.heap.size 32 v' (nfS n h) ∧ Below w.heap.size w w' := by
  induction n with
  | zero =>
    intro h v B w hn hv hB hK h200
    obtain ⟨A, cap, hv0, hlen, hcap, h3, h4, h5⟩ := hv
    simp only [List.cons.injEq, and_true] at hv0
    subst hv0
    have hl0 : (h.length : Int) = 0 := by omega
    have hl1 : ((h.length : Int) == 0) = true := by simpa using hl0
    clear h4 h5 hl0 hn hK h3
    go_enter Try.func14, Try.ntmps14
    go_wp2_with fail
    go_ret
    exact ⟨_, rfl, Own.nil _ _ _, Below.refl _ _⟩
  | succ n ih =>
    intro h v B w hn hv hB hK h200
    have HV := Rp.hid hv
    obtain ⟨A, cap, hv0, hlen, hcap, h3, h4, h5⟩ := hv
    simp only [List.cons.injEq, and_true] at hv0
    subst hv0
    have H5 := Rp.hid h5; clear h5
    have HIH := Rp.hid ih; clear ih
    have HN := Rp.hid hn
    have hpos : 0 < h.length := by omega
    have hl1 : ((h.length : Int) == 0) = false := by rw [beq_eq_false_iff_ne]; omega
    have hcap' : cap ≤ 9223372036854775807 := by unfold maxLen at hcap; omega
    clear h4 h3 hn hcap
    obtain ⟨b, off, es, rfl, hbB, _, _⟩ := H5.out 0 hpos
    have HC : Hid (∀ i (hi : i < h.length), ∃ es, Rep.is w B h[i] es ∧ ∀ j, j < 3 → w.cell? ⟨b, off + i * 3 + j, none⟩ = es[j]?) := fun i hi => by
      obtain ⟨b', off', es, hA, _, hes, hc⟩ := H5.out i hi
      injection hA with hA
      injection hA with e1 e2
      subst e1; subst e2
      exact ⟨es, hes, hc⟩
    clear H5
    have HKD := Rp.hid hK; clear hK
    go_enter Try.func14, Try.ntmps14
    go_wp2_with fail
    go_loopw [3, 15] (fun bs i wr => ∃ (k nb : Nat), k ≤ h.length ∧ i = .int .i64 k ∧ bs = .int .i64 nb ∧ nb < h.length ∧ Hid (bestR h k = nb) ∧ Hid (Below w.heap.size w wr)) (fun _ i _ => h.length - (intOf i).toNat)
    case atStart => exact ⟨0, 0, Nat.zero_le _, rfl, rfl, hpos, rfl, Below.refl _ _⟩
    case round =>
      obtain ⟨k, nb, hk, rfl, rfl, hnb, HQ, HL⟩ := hrel
      by_cases hlt : k < h.length
      · obtain ⟨es, hes, hc⟩ := HC.out k hlt
        obtain ⟨o, ho⟩ : ∃ o, h[k] = o := ⟨_, rfl⟩
        have hok := HKD.out o (ho ▸ List.getElem_mem hlt)
        rw [ho] at hes
        obtain ⟨rfl, ⟨ht1, ht2⟩, _, _⟩ := op_cells hes
        have c0 : wr.cell? ⟨b, off + k * 3, none⟩ = some (.int .i64 o.tx) := ((bcell HL.out).1 _ _ (by omega)).trans (hc 0 (by decide))
        have c1 : wr.cell? ⟨b, off + k * 3 + 1, none⟩ = some (.int .i64 o.kind) := ((bcell HL.out).1 _ _ (by omega)).trans (hc 1 (by decide))
        have c2 : wr.cell? ⟨b, off + k * 3 + 2, none⟩ = some (.string o.key) := ((bcell HL.out).1 _ _ (by omega)).trans (hc 2 (by decide))
        have HG := Rp.hid (getD_of hlt ho); clear ho hc hes
        have hkc : k ≤ cap := by omega
        have hsz := HL.out.size
        obtain ⟨wo, rfl⟩ : ∃ wo : World, wo = wr := ⟨_, rfl⟩
        go_wp2_with fail
        go_loopw [6, 24] (fun r i wr => ∃ (j : Nat) (q : Bool), j ≤ k ∧ i = .int .i64 j ∧ r = .bool q ∧ Hid (readyTo h k j o = q) ∧ Hid (Below (wo.heap.size + 1) (wo.alloc (.cells #[.int .i64 o.tx, .int .i64 o.kind, .string o.key] 32)) wr)) (fun _ i _ => k - (intOf i).toNat)
        case atStart => exact ⟨0, true, Nat.zero_le _, rfl, rfl, rfl, Below.refl _ _⟩
        case round =>
          obtain ⟨j, q, hj, rfl, rfl, HR, HL2⟩ := hrel
          by_cases hjl : j < k
          · obtain ⟨es, hes, hc⟩ := HC.out j (by omega)
            obtain ⟨e, he⟩ : ∃ e, h[j]'(by omega) = e := ⟨_, rfl⟩
            have hek := HKD.out e (he ▸ List.getElem_mem (by omega))
            rw [he] at hes
            obtain ⟨rfl, ⟨et1, et2⟩, _, _⟩ := op_cells hes
            have hbw : b < wo.heap.size := by omega
            have k0 : ∀ x, (wo.alloc (.cells #[.int .i64 o.tx, .int .i64 o.kind, .string o.key] 32)).cell? ⟨b, x, none⟩ = w.cell? ⟨b, x, none⟩ := fun x => by
              rw [World.cell?_alloc_lt _ _ _ hbw, (bcell HL.out).1 _ _ (by omega)]
            have d0 : wr.cell? ⟨b, off + j * 3, none⟩ = some (.int .i64 e.tx) := ((bcell HL2.out).1 _ _ (by omega)).trans ((k0 _).trans (hc 0 (by decide)))
            have d1 : wr.cell? ⟨b, off + j * 3 + 1, none⟩ = some (.int .i64 e.kind) := ((bcell HL2.out).1 _ _ (by omega)).trans ((k0 _).trans (hc 1 (by decide)))
            have d2 : wr.cell? ⟨b, off + j * 3 + 2, none⟩ = some (.string e.key) := ((bcell HL2.out).1 _ _ (by omega)).trans ((k0 _).trans (hc 2 (by decide)))
            have f0 : wr.cell? ⟨wo.heap.size, 0, none⟩ = some (.int .i64 o.tx) := ((bcell HL2.out).1 _ _ (by omega)).trans (by rw [World.cell?_alloc_new]; rfl)
            have f1 : wr.cell? ⟨wo.heap.size, 1, none⟩ = some (.int .i64 o.kind) := ((bcell HL2.out).1 _ _ (by omega)).trans (by rw [World.cell?_alloc_new]; rfl)
            have f2 : wr.cell? ⟨wo.heap.size, 2, none⟩ = some (.string o.key) := ((bcell HL2.out).1 _ _ (by omega)).trans (by rw [World.cell?_alloc_new]; rfl)
            have HE := Rp.hid (getD_of (show j < h.length by omega) he); clear he hc hes k0 c0 c1 c2
            have hszw := HL2.out.size
            have hne : wo.heap.size < wr.heap.size := by simp at hszw; omega
            have hblw : b < wr.heap.size := by omega
            have HS : Hid (readyTo h k (j + 1) o = readyStep q e o) := by
              have := readyTo_succ (o := o) hjl hk HE.out
              rw [HR.out] at this
              rw [readyStep_eq hek hok]
              exact this
            have HA := Rp.hid (HL2.out.alloc hne (.cells #[.int .i64 e.tx, .int .i64 e.kind, .string e.key] 32))
            cases q with
            | false =>
              go_wp2_with fail
              go_roundw
              case rel => exact ⟨j + 1, false, by omega, by go_num, rfl, HS, HA.out⟩
              case measure => simp [intOf]; omega
            | true =>
              cases hx : (e.tx != o.tx) with
              | false =>
                have HS2 : Hid (readyTo h k (j + 1) o = false) := by rw [HS.out]; show (true && (e.tx != o.tx && _)) = false; rw [hx]; rfl
                go_wp2_with fail
                go_roundw
                case rel => exact ⟨j + 1, false, by omega, by go_num, rfl, HS2, HA.out⟩
                case measure => simp [intOf]; omega
              | true =>
                have HS2 : Hid (readyTo h k (j + 1) o = !conflictR e o) := by rw [HS.out]; show (true && (e.tx != o.tx && !conflictR e o)) = _; rw [hx]; rfl
                go_wp2_with fail
                refine (conflicts_is e o _ _ rfl hek.1 hek.2 hok.1 hok.2).mono ?_
                rintro e1 w4 ⟨rfl, hb4⟩
                have HA4 := Rp.hid (HA.out.trans (hb4.mono (by have := HA.out.size; simpa using this))); clear hb4
                generalize conflictR e o = cr at *
                go_wp2_with fail
                go_roundw
                case rel => exact ⟨j + 1, !cr, by omega, by go_num, rfl, HS2, HA4.out⟩
                case measure => simp [intOf]; omega
          · have hjk : j = k := by omega
            subst hjk
            have HR2 : Hid (readyS h j o = q) := by have := HR.out; rw [readyTo_all hk] at this; exact this
            have hszw := HL2.out.size
            have HB5 : Hid (Below w.heap.size w wr) := HL.out.trans (((below1 wo _).trans (HL2.out.mono (by omega))).mono hsz)
            cases q with
            | false =>
              have HN2 := Rp.hid (bestR_not HG.out HQ.out HR2.out)
              go_wp2_with fail
              go_quiet (fail)
              go_wp2_with fail
              go_roundw
              case rel => exact ⟨j + 1, nb, by omega, by go_num, rfl, hnb, HN2, HB5.out.drewN _⟩
              case measure => simp [intOf]; omega
            | true =>
              obtain ⟨es, hes, hc⟩ := HC.out nb hnb
              obtain ⟨p, hp⟩ : ∃ p, h[nb] = p := ⟨_, rfl⟩
              rw [hp] at hes
              obtain ⟨rfl, ⟨hp1, hp2⟩, _, _⟩ := op_cells hes
              have e0 : wr.cell? ⟨b, off + nb * 3, none⟩ = some (.int .i64 p.tx) := ((bcell HB5.out).1 _ _ (by omega)).trans (hc 0 (by decide))
              have f0 : wr.cell? ⟨wo.heap.size, 0, none⟩ = some (.int .i64 o.tx) := ((bcell HL2.out).1 _ _ (by omega)).trans (by rw [World.cell?_alloc_new]; rfl)
              have HP := Rp.hid (getD_of hnb hp); clear hp hes hc c0 c1 c2
              by_cases hless : o.tx < p.tx
              · have HN2 := Rp.hid (bestR_less HG.out HQ.out HR2.out HP.out hless)
                go_wp2_with fail
                go_quiet (fail)
                go_wp2_with fail
                go_roundw
                case rel => exact ⟨j + 1, j, by omega, by go_num, rfl, hlt, HN2, HB5.out.drewN _⟩
                case measure => simp [intOf]; omega
              · have HN2 := Rp.hid (bestR_more HG.out HQ.out HP.out hless)
                have hd : decide (o.tx < p.tx) = false := by simpa using hless
                go_wp2_with fail
                go_quiet (fail)
                go_wp2_with fail
                go_roundw
                case rel => exact ⟨j + 1, nb, by omega, by go_num, rfl, hnb, HN2, HB5.out.drewN _⟩
                case measure => simp [intOf]; omega
      · have hkk : k = h.length := by omega
        subst hkk
        have hsz := HL.out.size
        obtain ⟨flat, hf, hcells⟩ := list_flat (by decide) HV.out
        have hfl : flat.length = h.length * 3 := hf.length
        obtain ⟨Ab, hAb, hnb2⟩ : ∃ A : Addr, (if cap = nb + 1 then some (⟨b, off, none⟩ : Addr) else some ⟨b, off + (nb + 1) * 3, none⟩) = some A ∧ A.block = b ∧ ∀ j u, (flat.drop ((nb + 1) * 3))[j]? = some u → w.cell? (A.add j) = some u := by
          by_cases hc : cap = nb + 1
          · refine ⟨⟨b, off, none⟩, by simp [hc], rfl, fun j u hu => ?_⟩
            rw [List.drop_of_length_le (by omega)] at hu
            simp at hu
          · refine ⟨⟨b, off + (nb + 1) * 3, none⟩, by simp [hc], rfl, fun j u hu => ?_⟩
            rw [List.getElem?_drop] at hu
            have := hcells _ _ hu
            rw [addr_add1] at this ⊢
            rw [Nat.add_assoc]
            exact this
        have HM : Hid (Own (α := Op) (wr.alloc (.cells #[] 32)) w.heap.size 32 (.slice (some ⟨wr.heap.size, 0, none⟩) 0 0) []) := Own.made0 wr _ 32 hsz
        have HFa : Hid (∀ w' B', Flat w' B' (h.take nb) (flat.take (nb * 3))) := fun w' B' => (hf.take nb).any
        have HFb : Hid (∀ w' B', Flat w' B' (h.drop (nb + 1)) (flat.drop ((nb + 1) * 3))) := fun w' B' => (hf.drop (nb + 1)).any
        have hla : (h.take nb).length = nb := by rw [List.length_take]; omega
        have hlb : (h.drop (nb + 1)).length = h.length - (nb + 1) := List.length_drop
        have HCa : Hid (∀ W, Below w.heap.size w W → ∀ j u, (flat.take (nb * 3))[j]? = some u → W.cell? ((⟨b, off, none⟩ : Addr).add j) = some u) := fun W hW j u hu => by
          have hj : j < nb * 3 := by have := (List.getElem?_eq_some_iff.1 hu).1; rw [List.length_take] at this; omega
          rw [List.getElem?_take_of_lt hj] at hu
          have := hcells j u hu
          rw [addr_add1] at this ⊢
          rw [(bcell hW).1 _ _ (by omega)]
          exact this
        have HCb : Hid (∀ W, Below w.heap.size w W → ∀ j u, (flat.drop ((nb + 1) * 3))[j]? = some u → W.cell? (Ab.add j) = some u) := fun W hW j u hu => by
          have h1 := hnb2.2 j u hu
          exact (hW.cell (p := Ab.add j) (by have h2 : (Ab.add j).block = b := by unfold Addr.add; split <;> exact hnb2.1
                                             rw [h2]; omega)).trans h1
        have HLa := Rp.hid hla
        have HLb := Rp.hid hlb
        have hwr : IntKind.i64.wrap ((nb : Int) + 1) = (nb : Int) + 1 := by rw [IntKind.wrap_i64]; omega
        have hp0 : (0 : Int) ≤ (nb : Int) + 1 := by omega
        have hp1 : (nb : Int) + 1 ≤ (h.length : Int) := by omega
        have hp2 : ((nb : Int) + 1).toNat = nb + 1 := by omega
        have hnc : nb ≤ cap := by omega
        clear hcells hf hfl hnb2 hla hlb
        go_wp2_with fail
        have HLd : Hid (Below w.heap.size w (wr.alloc (.cells #[] 32)).drew) := (HL.out.alloc hsz _).drew
        have HMd : Hid (Own (α := Op) (wr.alloc (.cells #[] 32)).drew w.heap.size 32 (.slice (some ⟨wr.heap.size, 0, none⟩) 0 0) []) := HM.out.below ((Below.refl _ _).drew)
        go_region_law (first
          | (refine step_append_rep (α := Op) rfl (.tmp 56) (.tmp 59) 22 rfl w.heap.size 32 32 elem22 (.slice (some ⟨wr.heap.size, 0, none⟩) 0 0) [] (h.take nb) (by simp [Act.eval, Act.put]) HMd.out ⟨b, off, none⟩ cap (by simp [Act.eval, Act.put, HLa.out]) _ (HFa.out _ _) (HCa.out _ HLd.out) (by rw [HLa.out]; simp; unfold reach; omega) (by simp; omega) ?_; intro v1 w1 hown1 hg1 _; have HO1 := Rp.hid hown1; have HW1 := Rp.hid (HLd.out.trans (grown_below HMd.out hg1 (by simp; omega))); clear hown1 hg1)
          | (refine step_append_rep (α := Op) rfl (.tmp 60) (.tmp 64) 22 rfl w.heap.size 32 32 elem22 v1 (h.take nb) (h.drop (nb + 1)) (by simp [Act.eval, Act.put]) HO1.out Ab (cap - (nb + 1)) (by simp [Act.eval, Act.put, hAb, HLb.out]) _ (HFb.out _ _) (HCb.out _ HW1.out) (by rw [HLa.out, HLb.out]; unfold reach; omega) (by have := HW1.out.size; omega) ?_; intro v2 w2 hown2 hg2 _; have HO2 := Rp.hid hown2; have HW2 := Rp.hid (HW1.out.trans (grown_below HO1.out hg2 (by have := HW1.out.size; omega))); clear hown2 hg2))
        have hqn : bestS h h.length = nb := by
          have h1 := HQ.out
          have h2 := bestS_nonneg h h.length hpos
          unfold bestR at h1
          omega
        obtain ⟨es, hes, hc⟩ := HC.out nb hnb
        obtain ⟨p, hp⟩ : ∃ p, h[nb] = p := ⟨_, rfl⟩
        have hgp := getD_of hnb hp
        rw [hp] at hes
        have HES := Rp.hid hes
        obtain ⟨rfl, _, _, _⟩ := op_cells hes
        have k0 : w2.cell? ⟨b, off + nb * 3, none⟩ = some (.int .i64 p.tx) := ((bcell HW2.out).1 _ _ (by omega)).trans (hc 0 (by decide))
        have k1 : w2.cell? ⟨b, off + nb * 3 + 1, none⟩ = some (.int .i64 p.kind) := ((bcell HW2.out).1 _ _ (by omega)).trans (hc 1 (by decide))
        have k2 : w2.cell? ⟨b, off + nb * 3 + 2, none⟩ = some (.string p.key) := ((bcell HW2.out).1 _ _ (by omega)).trans (hc 2 (by decide))
        have HSP : Hid (nfS (n + 1) h = p :: nfS n (h.eraseIdx nb)) := by
          show nfS (n + 1) h = _
          simp only [nfS]
          rw [if_neg (by omega), hqn, Int.toNat_natCast, hgp]
        have HER : Hid (Own w2 w.heap.size 32 v2 (h.eraseIdx nb)) := by
          have := HO2.out
          rw [← List.eraseIdx_eq_take_drop_succ] at this
          exact this
        have HEL : Hid ((h.eraseIdx nb).length = n) := by have := HN.out; show _ = _; rw [List.length_eraseIdx_of_lt hnb]; omega
        have HEK : Hid (Kinds (h.eraseIdx nb)) := fun x hx => HKD.out x (List.mem_of_mem_eraseIdx hx)
        have hbw2 : b < w2.heap.size := by have := HW2.out.size; omega
        clear hc hes hgp hp hqn
        go_wp2_with fail
        have HS2 := Rp.hid HW2.out.size
        have HLN : Hid (([p] : List Op).length + (nfS n (h.eraseIdx nb)).length ≤ 201) := by
          show 1 + _ ≤ _
          have := nfS_len n (h.eraseIdx nb)
          have := HN.out
          omega
        have HLZ : Hid ((([p] : List Op).length + (nfS n (h.eraseIdx nb)).length) * 32 ≤ reach) := by
          have := HLN.out
          show _ ≤ _
          unfold reach
          omega
        have HA1 := Rp.hid ((Own.made1 (α := Op) w2 w.heap.size 32 p [.int .i64 p.tx, .int .i64 p.kind, .string p.key] HES.out (B := B) rfl HS2.out).below (Below.refl _ _).drew)
        have HX1 : Hid (Below w2.heap.size w2 (w2.alloc (.cells #[.int .i64 p.tx, .int .i64 p.kind, .string p.key] 32)).drew) := (below1 _ _).drew
        have HX : Hid (w2.heap.size ≤ ((w2.alloc (.cells #[.int .i64 p.tx, .int .i64 p.kind, .string p.key] 32)).drew).heap.size) := Rp.hid (by simp)
        go_region_law (first
          | (go_simp; go_at_call 14; refine (HIH.out (h.eraseIdx nb) v2 _ _ HEL.out ((HER.out.below (by first | exact (Below.refl _ _).drew | exact (below1 _ _).drew | exact ((below1 _ _).drew).drew)).is (by rw [HEL.out]; show n * 32 ≤ reach; unfold reach; have := HN.out; omega)) (Nat.le_refl _) HEK.out (by rw [HEL.out]; have := HN.out; omega)).mono ?_; rintro e1 w3 ⟨v3, rfl, hO3, hb3⟩; have hx : Below w2.heap.size w2 w3 := (by first | exact ((Below.refl _ _).drew).trans hb3 | exact HX1.out.trans (hb3.mono HX.out)); obtain ⟨kc, kf⟩ := bcell hx; clear hx; have HO3 := Rp.hid hO3; have HB3 := Rp.hid hb3; clear hO3 hb3)
          | (have A2 := HA1.out.below HB3.out; have A3 := Nat.le_trans HS2.out (Nat.le_trans HX.out HB3.out.size); refine step_append_src (α := Op) rfl (.tmp 70) (.tmp 72) 22 rfl w.heap.size 32 32 elem22 (.slice (some ⟨w2.heap.size, 0, none⟩) 1 1) v3 [p] (nfS n (h.eraseIdx nb)) (by simp [Act.eval, Act.put]) (by simp [Act.eval, Act.put]) A2 HO3.out.src HLZ.out A3 ?_; intro v5 w5 hown5 hg5 _; have HO5 := Rp.hid hown5; have HW5 : Hid (Below w.heap.size w w5) := Rp.hid (((HW2.out.trans (HX1.out.mono HS2.out)).trans (HB3.out.mono (Nat.le_trans HS2.out HX.out))).trans (grown_below A2 hg5 A3)); clear hown5 hg5 A2 A3)
          | (have B3 := Nat.le_trans HS2.out HB3.out.size; have A2 := Own.made1 (α := Op) w3 w.heap.size 32 p [.int .i64 p.tx, .int .i64 p.kind, .string p.key] HES.out (B := B) rfl B3; have A3 := Nat.le_trans B3 (below1 w3 (.cells #[.int .i64 p.tx, .int .i64 p.kind, .string p.key] 32)).size; refine step_append_src (α := Op) rfl (.tmp 70) (.tmp 72) 22 rfl w.heap.size 32 32 elem22 (.slice (some ⟨w3.heap.size, 0, none⟩) 1 1) v3 [p] (nfS n (h.eraseIdx nb)) (by simp [Act.eval, Act.put]) (by simp [Act.eval, Act.put]) A2 (HO3.out.src.below (below1 _ _)) HLZ.out A3 ?_; intro v5 w5 hown5 hg5 _; have HO5 := Rp.hid hown5; have HW5 : Hid (Below w.heap.size w w5) := Rp.hid (((HW2.out.drew.trans (HB3.out.mono HS2.out)).trans ((below1 w3 _).mono B3)).trans (grown_below A2 hg5 A3)); clear hown5 hg5 A2 A3))
        all_goals
          go_wp2_with fail
          go_ret
          exact ⟨_, rfl, by rw [HSP.out]; exact HO5.out, HW5.out⟩
end Go.Proofs.Ytabjbkdlacibjaa
