/- normalForm and NormalForm: both return the same list of operations. -/
import Derived.Test.YtabjbkdlacibjaaEq1
namespace Go.Proofs.Ytabjbkdlacibjaa
open Go.RowKit Go.Rp

instance : Inhabited Op := ⟨⟨(0, 0, ByteArray.empty, ())⟩⟩
def op0 : Op := ⟨(0, 0, ByteArray.empty, ())⟩
def readyS (rem : List Op) (i : Nat) (o : Op) : Bool := !((rem.take i).any fun e => depS e o)
def bestS (rem : List Op) : Nat → Int
  | 0 => -1
  | i + 1 => if readyS rem i (rem.getD i op0) = true ∧ (bestS rem i < 0 ∨ (rem.getD i op0).tx < (rem.getD (bestS rem i).toNat op0).tx) then i else bestS rem i
theorem bestS_bd (rem : List Op) : ∀ k, -1 ≤ bestS rem k ∧ bestS rem k < k + (if k = 0 then 0 else 0)
  | 0 => by simp [bestS]
  | k + 1 => by
    have := bestS_bd rem k
    simp only [bestS]
    split
    · constructor <;> simp <;> omega
    · constructor
      · exact this.1
      · have := this.2; simp at this ⊢; omega
def nfS : Nat → List Op → List Op
  | 0, _ => []
  | n + 1, rem => if rem.length = 0 then [] else rem.getD (bestS rem rem.length).toNat op0 :: nfS n (rem.eraseIdx (bestS rem rem.length).toNat)

theorem bestS_0 (rem : List Op) : bestS rem 1 = 0 := by
  simp [bestS, readyS]
theorem bestS_nonneg (rem : List Op) : ∀ k, 1 ≤ k → 0 ≤ bestS rem k
  | 1, _ => by rw [bestS_0]; omega
  | k + 2, _ => by
    have := bestS_nonneg rem (k + 1) (by omega)
    rw [bestS]
    split
    · omega
    · exact this

theorem best_not {rem : List Op} {k : Nat} {o : Op} {q : Int} (ho : rem.getD k op0 = o) (hq : bestS rem k = q) (hr : readyS rem k o = false) : bestS rem (k + 1) = q := by
  simp only [bestS, ho, hq, hr]; simp
theorem best_first {rem : List Op} {k : Nat} {o : Op} {q : Int} (ho : rem.getD k op0 = o) (hq : bestS rem k = q) (hr : readyS rem k o = true) (h : q < 0) : bestS rem (k + 1) = k := by
  simp only [bestS, ho, hq, hr]; simp [h]
theorem best_less {rem : List Op} {k nb : Nat} {o p : Op} (ho : rem.getD k op0 = o) (hq : bestS rem k = nb) (hr : readyS rem k o = true) (hp : rem.getD nb op0 = p) (h : o.tx < p.tx) : bestS rem (k + 1) = k := by
  simp only [bestS, ho, hq, hr]
  rw [if_pos ⟨trivial, .inr (by rw [Int.toNat_natCast, hp]; exact h)⟩]
theorem best_more {rem : List Op} {k nb : Nat} {o p : Op} (ho : rem.getD k op0 = o) (hq : bestS rem k = nb) (hp : rem.getD nb op0 = p) (h : ¬ o.tx < p.tx) : bestS rem (k + 1) = nb := by
  simp only [bestS, ho, hq]
  rw [if_neg]
  rintro ⟨_, h' | h'⟩
  · omega
  · rw [Int.toNat_natCast, hp] at h'; exact h h'
theorem getD_of {rem : List Op} {k : Nat} (h : k < rem.length) {o : Op} (ho : rem[k] = o) : rem.getD k op0 = o := by
  simp [List.getD, h, ho]

theorem enters82 : Enters Try.prog 82 := enters_of Try.func82 (by kernel_rfl) rfl
theorem heap_alloc_at (w : World) (o : Obj) : (w.alloc o).heap[w.heap.size]? = some o := by
  show (w.heap.push o)[w.heap.size]? = _
  simp

set_option maxRecDepth 20000 in
set_option maxHeartbeats 1000000 in
theorem normalForm54 (h : List Op) (v : Value) (B : Nat) (w : World) (hv : Rep.is w B h [v]) (hB : B ≤ w.heap.size) (hb200 : h.length ≤ 200) :
    Calls Try.prog 54 #[v] w fun e w' => ∃ v', e = .returned v' ∧ Own w' w.heap.size 27 v' (nfS h.length h) ∧ Below w.heap.size w w' := by
  have HV := Rp.hid hv; clear hv
  go_enter Try.func54, Try.ntmps54
  go_wp2_with fail
  refine (clone80 h v B w HV.out hB).mono ?_
  rintro e w1 ⟨u, rfl, hO, hL⟩
  have HO := Rp.hid hO; clear hO
  have HL := Rp.hid hL; clear hL
  go_wp2_with fail
  go_loopw [3, 4] (fun r m wr => ∃ (rem nor : List Op), rem.length ≤ h.length ∧ nor.length + rem.length = h.length ∧ Hid (Own wr w.heap.size 27 r rem) ∧ Hid (Own wr w.heap.size 27 m nor) ∧ Hid (Apart r m ∧ Apart m r) ∧ Hid (nor ++ nfS rem.length rem = nfS h.length h) ∧ Hid (Below w.heap.size w wr)) (fun r _ _ => lenOf r)
  case atStart => exact ⟨h, [], Nat.le_refl _, by simp, HO, Own.nil _ _ _, ⟨(Classical.em (u.ownBlock = none)).elim .inl .inr, .inl rfl⟩, rfl, HL⟩
  case round =>
    obtain ⟨rem, nor, hlen, hsum, HR, HN, HAP, HE, HL⟩ := hrel
    by_cases hlt : 0 < rem.length
    · obtain ⟨g, cap, rfl, hcap, hcm, hbg, hgl, hcells⟩ := HR.out.opened hlt
      have HCL := Rp.hid hcells; clear hcells
      unfold maxLen at hcm
      go_wp2_with fail
      obtain ⟨wo, rfl⟩ : ∃ wo : World, wo = wr := ⟨_, rfl⟩
      go_loopw [5, 16] (fun b i wr => ∃ (k : Nat) (q : Int), k ≤ rem.length ∧ i = .int .i64 k ∧ b = .int .i64 q ∧ Hid (bestS rem k = q) ∧ -1 ≤ q ∧ q < k ∧ Hid (Below wo.heap.size wo wr)) (fun _ i _ => rem.length - (intOf i).toNat)
      case atStart => exact ⟨0, -1, Nat.zero_le _, rfl, rfl, rfl, by omega, by omega, Below.refl _ _⟩
      case round =>
        obtain ⟨k, q, hk, rfl, rfl, HQ, hq1, hq2, HL2⟩ := hrel
        by_cases hkl : k < rem.length
        · obtain ⟨es, hes, hc⟩ := HCL.out k hkl
          obtain ⟨o, ho⟩ : ∃ o, rem[k] = o := ⟨_, rfl⟩
          rw [ho] at hes
          obtain ⟨rfl, ht, hkd, hky⟩ := op_cells hes
          obtain ⟨ht1, ht2⟩ := ht
          have c0 : wr.cell? ⟨g, k * 3, none⟩ = some (.int .i64 o.tx) := ((bcell HL2.out).1 _ _ (by omega)).trans (hc 0 (by decide))
          have c1 : wr.cell? ⟨g, k * 3 + 1, none⟩ = some (.int .i64 o.kind) := ((bcell HL2.out).1 _ _ (by omega)).trans (hc 1 (by decide))
          have c2 : wr.cell? ⟨g, k * 3 + 2, none⟩ = some (.string o.key) := ((bcell HL2.out).1 _ _ (by omega)).trans (hc 2 (by decide))
          have HOO := Rp.hid ho; clear ho hc hes
          have hkc : k ≤ cap := by omega
          go_wp2_with fail
          have hblk := heap_alloc_at wr (.cells #[.int .i64 o.tx, .int .i64 o.kind, .string o.key] 27)
          have hba : Below wo.heap.size wo (wr.alloc (.cells #[.int .i64 o.tx, .int .i64 o.kind, .string o.key] 27)) := HL2.out.alloc HL2.out.size _
          have hsa : wr.heap.size < (wr.alloc (.cells #[.int .i64 o.tx, .int .i64 o.kind, .string o.key] 27)).heap.size := by simp
          generalize wr.alloc (.cells #[.int .i64 o.tx, .int .i64 o.kind, .string o.key] 27) = wa at hblk hba hsa ⊢
          obtain ⟨bo, hbo⟩ : ∃ bo, bo = wr.heap.size := ⟨_, rfl⟩
          rw [← hbo] at hblk hsa ⊢
          clear hbo c0 c1 c2
          have hOa := HR.out.below hba
          have hTk : Rep.is wa wa.heap.size (rem.take k) [.slice (some ⟨g, 0, none⟩) k cap] := hOa.take_is k hk (by show rem.length * 32 ≤ reach; unfold reach; omega)
          refine (containsFunc81 (rem.take k) _ _ wa hTk (Nat.le_refl _) 82 _ (fun e => depS e o) enters82 (fun x _ w1 hb1 => closure82 x o bo w1 ((hb1.block bo hsa).trans hblk)) _ rfl).mono ?_
          rintro e w3 ⟨rfl, hb3⟩
          have hb4 : Below wo.heap.size wo w3 := hba.trans (hb3.mono hba.size)
          have d0 : w3.cell? ⟨bo, 0, none⟩ = some (.int .i64 o.tx) := by rw [(bcell hb3).1 _ _ hsa]; simp [World.cell?, hblk]
          have HB4 := Rp.hid hb4; clear hb4 hb3 hTk hOa hba hblk hsa
          have HRD : Hid (readyS rem k o = !((rem.take k).any fun e => depS e o)) := rfl
          generalize (rem.take k).any (fun e => depS e o) = rd at *
          have HG := Rp.hid (getD_of hkl HOO.out)
          cases rd with
          | true =>
            have HN2 := Rp.hid (best_not HG.out HQ.out (by rw [HRD.out]; rfl))
            go_wp2_with fail
            go_quiet (fail)
            go_wp2_with fail
            go_roundw
            case rel => exact ⟨k + 1, q, by omega, by go_num, rfl, HN2, hq1, by omega, HB4.out.drewN _⟩
            case measure => simp [intOf]; omega
          | false =>
            by_cases hq0 : q < 0
            · have HN2 := Rp.hid (best_first HG.out HQ.out (by rw [HRD.out]; rfl) hq0)
              go_wp2_with fail
              go_quiet (fail)
              go_wp2_with fail
              go_roundw
              case rel => exact ⟨k + 1, k, by omega, by go_num, rfl, HN2, by omega, by omega, HB4.out.drewN _⟩
              case measure => simp [intOf]; omega
            · obtain ⟨nb, rfl⟩ := Int.eq_ofNat_of_zero_le (show 0 ≤ q by omega)
              have hnb : nb < rem.length := by omega
              obtain ⟨es, hes, hc⟩ := HCL.out nb hnb
              obtain ⟨p, hp⟩ : ∃ p, rem[nb] = p := ⟨_, rfl⟩
              rw [hp] at hes
              obtain ⟨rfl, hpt, _, _⟩ := op_cells hes
              obtain ⟨hp1, hp2⟩ := hpt
              have e0 : w3.cell? ⟨g, nb * 3, none⟩ = some (.int .i64 p.tx) := ((bcell HB4.out).1 _ _ (by omega)).trans (hc 0 (by decide))
              have HP := Rp.hid (getD_of hnb hp); clear hp hes hc
              by_cases hless : o.tx < p.tx
              · have HN2 := Rp.hid (best_less HG.out HQ.out (by rw [HRD.out]; rfl) HP.out hless)
                go_wp2_with fail
                go_quiet (fail)
                go_wp2_with fail
                go_roundw
                case rel => exact ⟨k + 1, k, by omega, by go_num, rfl, HN2, by omega, by omega, HB4.out.drewN _⟩
                case measure => simp [intOf]; omega
              · have HN2 := Rp.hid (best_more HG.out HQ.out HP.out hless)
                have hd : decide (o.tx < p.tx) = false := by simpa using hless
                go_wp2_with fail
                go_quiet (fail)
                go_wp2_with fail
                go_roundw
                case rel => exact ⟨k + 1, nb, by omega, by go_num, rfl, HN2, hq1, by omega, HB4.out.drewN _⟩
                case measure => simp [intOf]; omega
        · have hkk : k = rem.length := by omega
          subst hkk
          have hq0 : 0 ≤ q := by rw [← HQ.out]; exact bestS_nonneg rem _ hlt
          obtain ⟨nb, rfl⟩ := Int.eq_ofNat_of_zero_le hq0
          have hnb : nb < rem.length := by omega
          obtain ⟨es, hes, hc⟩ := HCL.out nb hnb
          obtain ⟨p, hp⟩ : ∃ p, rem[nb] = p := ⟨_, rfl⟩
          rw [hp] at hes
          have hes' := hes
          obtain ⟨rfl, hpt, _, _⟩ := op_cells hes
          have e0 : wr.cell? ⟨g, nb * 3, none⟩ = some (.int .i64 p.tx) := ((bcell HL2.out).1 _ _ (by omega)).trans (hc 0 (by decide))
          have e1 : wr.cell? ⟨g, nb * 3 + 1, none⟩ = some (.int .i64 p.kind) := ((bcell HL2.out).1 _ _ (by omega)).trans (hc 1 (by decide))
          have e2 : wr.cell? ⟨g, nb * 3 + 2, none⟩ = some (.string p.key) := ((bcell HL2.out).1 _ _ (by omega)).trans (hc 2 (by decide))
          have HP := Rp.hid (getD_of hnb hp); clear hp hc
          have hsz := HL2.out.size
          have hszo := HL.out.size
          have HR2 := Rp.hid ((HR.out.below HL2.out).alloc (.cells #[.int .i64 p.tx, .int .i64 p.kind, .string p.key] 27))
          have HN2 := Rp.hid ((HN.out.below HL2.out).alloc (.cells #[.int .i64 p.tx, .int .i64 p.kind, .string p.key] 27))
          have HB2 := Rp.hid ((HL.out.trans (HL2.out.mono hszo)).alloc (by omega) (.cells #[.int .i64 p.tx, .int .i64 p.kind, .string p.key] 27))
          have HES : Hid (∀ w', Flat w' w'.heap.size [p] [.int .i64 p.tx, .int .i64 p.kind, .string p.key]) := fun w' => Flat.one (FlatRep.any hes')
          have HCN := Rp.hid (cells_new wr [.int .i64 p.tx, .int .i64 p.kind, .string p.key] 27 rfl)
          clear hes hes'
          go_wp2_with (at_builtin; refine wpList_append_rep (α := Op) _ rfl (.tmp 44) (.tmp 49) 28 rfl w.heap.size 27 32 elem28 u4 nor [p] rfl HN2.out ⟨wr.heap.size, 0, none⟩ 1 rfl _ (HES.out _) HCN.out (by simp only [List.length_singleton]; unfold reach; omega) (by simp; omega) ?_; intro v' w4 hown hg hwhere)
          have hR4 := HR2.out.kept hg HAP.out.1
          have hb4 := HB2.out.trans (grown_below HN2.out hg (by simp; omega))
          have hl8 : rem.length * 32 ≤ reach := by unfold reach; omega
          refine (delete84 rem _ w.heap.size w4 nb hR4 hnb (by have := hb4.size; omega) hl8).mono ?_
          rintro e w5 ⟨v2, rfl, hO5, hg5, hblk5⟩
          have hvg : v'.ownBlock = none ∨ v'.ownBlock ≠ some g := by
            rcases hwhere with hw | ⟨g', hw, hge⟩
            · rw [hw]; exact HAP.out.2
            · right
              rw [hw]
              simp at hge
              intro hh
              injection hh with hh
              omega
          have hN5 := hown.kept hg5 hvg
          have hb5 := hb4.trans (grown_below hR4 hg5 (by have := hb4.size; omega))
          have hap : Apart v2 v' ∧ Apart v' v2 := by
            constructor
            · right
              rw [hblk5]
              rcases hvg with h' | h'
              · rw [h']; simp [Value.ownBlock]
              · exact fun hh => h' hh.symm
            · rcases hvg with h' | h'
              · exact .inl h'
              · right; rw [hblk5]; exact h'
          have hlen2 : (rem.eraseIdx nb).length = rem.length - 1 := List.length_eraseIdx_of_lt hnb
          have heq : (nor ++ [p]) ++ nfS (rem.eraseIdx nb).length (rem.eraseIdx nb) = nfS h.length h := by
            rw [← HE.out]
            obtain ⟨m, hm⟩ : ∃ m, rem.length = m + 1 := ⟨rem.length - 1, by omega⟩
            have e1 : nfS rem.length rem = p :: nfS m (rem.eraseIdx nb) := by
              have hq' := HQ.out
              rw [hm]
              simp only [nfS]
              rw [if_neg (by omega), hq', Int.toNat_natCast, HP.out]
            rw [e1, hlen2, show rem.length - 1 = m by omega]
            simp
          have hlv : lenOf v2 = rem.length - 1 := by
            obtain ⟨A2, cap2, hsh, _⟩ := hO5.shape
            rw [hsh]; exact hlen2
          have H5 := Rp.hid hO5
          have HN5 := Rp.hid hN5
          have HAP5 := Rp.hid hap
          have HE5 := Rp.hid heq
          have HB5 := Rp.hid hb5
          have HLV := Rp.hid hlv
          have HL2' := Rp.hid hlen2
          clear hO5 hN5 hap heq hb5 hlv hlen2 hg5 hblk5 hvg hb4 hR4 hg hwhere hown
          go_wp2_with fail
          go_roundw
          case rel => exact ⟨rem.eraseIdx nb, nor ++ [p], by have := HL2'.out; omega, by have := HL2'.out; simp; omega, H5, HN5, HAP5, HE5, HB5⟩
          case measure => rw [HLV.out]; show rem.length - 1 < rem.length; omega
    · have h0 : rem.length = 0 := by omega
      have HF : Hid (nor = nfS h.length h) := by
        have := HE.out
        rw [h0] at this
        exact (by simpa [nfS] using this : nor = nfS h.length h)
      obtain ⟨A, cap, hsh, hc1, _⟩ := HR.out.shape
      subst hsh
      have hl0 : (rem.length : Int) ≤ 0 := by omega
      clear h0
      go_wp2_with fail
      go_ret
      exact ⟨_, rfl, by rw [← HF.out]; exact HN.out, HL.out⟩
end Go.Proofs.Ytabjbkdlacibjaa
