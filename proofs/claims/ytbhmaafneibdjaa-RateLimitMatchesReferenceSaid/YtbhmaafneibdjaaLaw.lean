/- The walk of RateLimitMatchesReference: for all arguments it returns true and leaves old memory alone. -/
import Derived.Test.YtbhmaafneibdjaaBucket
namespace Go.Proofs.Ytbhmaafneibdjaa
open Go.RowKit Go.Rp

theorem getD_in {op : List Int} {w : World} {B : Nat} {v : Value} (h : Rep.is w B op [v]) (i : Nat) : InI64 (op.getD i 0) := by
  obtain ⟨A, cap, hv, h1, h2, h3, h4, h5⟩ := h
  by_cases hlt : i < op.length
  · obtain ⟨b, off, es, rfl, hb, ⟨rfl, hin⟩, hc⟩ := h5 i hlt
    simpa [hlt] using hin
  · simp [List.getD, hlt, InI64]

theorem Below.drewN {B : Nat} {w w' : World} (h : Below B w w') (n : Nat) : Below B w (w'.drewN n) := ⟨h.os, h.tape, h.output, h.size, h.block⟩

theorem ticks_eq {rate burst q n : Int} (hr : 1 ≤ rate) (hn : ¬ burst < n) (h0 : 0 < n) (hq : q < n) : ticks rate burst (max q 0) (max (-q) 0) n = (n - q - 1) / rate + 1 := by
  unfold ticks
  rw [if_neg (by omega), if_neg hn, if_neg (by omega), show n - max q 0 + max (-q) 0 + rate - 1 = (n - q - 1) + rate by omega]
  exact Int.add_ediv_of_dvd_right (Int.dvd_refl rate) ▸ (by rw [Int.ediv_self (by omega)])

theorem until2 (k : Nat) (r b t d n : Int) (w : World) (h : Bucket w k r b t d) (h3 : 0 ≤ t) (h4 : t ≤ 1000000) (h5 : 1 ≤ r) (h6 : r ≤ 1000) (h7 : 0 ≤ d) (h8 : d ≤ 1000000) (h9 : 0 ≤ b) (h10 : b ≤ 1000000) (hn : InI64 n) :
    Calls Try.prog 9 #[.pointer (some ⟨k, 0, none⟩), .int .i64 n] w fun e w' => e = .returned (.tuple #[.int .i64 (ticks r b t d n), .int .i64 (ticksE b n)]) ∧ Bucket w' k r b t d ∧ Only k w w' :=
  (until_ok k r b t d n w h h3 h4 h5 h6 h7 h8 h9 h10 hn).mono fun e w' ⟨he, q, hw⟩ => ⟨he, by rw [hw]; exact h, by rw [hw]; exact (Only.refl _ _).drewN q⟩

theorem bucket_new (w : World) (a b : Int) : Bucket (w.alloc (.cells #[.int .i64 a, .int .i64 b, .int .i64 b, .int .i64 0] 36)) w.heap.size a b b 0 := by
  show (w.heap.push _)[w.heap.size]? = _
  simp

set_option maxRecDepth 100000 in
set_option maxHeartbeats 4000000 in
theorem law_any (rate burst : Int) (ops : List (List Int)) (v : Value) (W : World) (hr : InI64 rate) (hb : InI64 burst) (hv : Rep.is W W.heap.size ops [v]) :
    Calls Try.prog 3 #[.int .i64 rate, .int .i64 burst, v] W fun e w' => e = .returned (.bool true) ∧ Below W.heap.size W w' := by
  obtain ⟨A, cap, hv0, hlen, hcap, h3, h4, h5⟩ := hv
  simp only [List.cons.injEq, and_true] at hv0
  subst hv0
  have H5 := Rp.hid h5; clear h5
  have h3' : ops.length * 24 ≤ reach := h3
  unfold reach at h3'
  have hl8 : ops.length ≤ 5864062014806 := by omega
  clear h3 h4 h3' hlen hcap
  go_enter Try.func3, Try.ntmps3
  go_wp2_with fail
  refine (new_ok 2 5 _ (by omega) (by omega) (by omega) (by omega)).mono ?_
  rintro e w1 ⟨rfl, rfl⟩
  have hb1 := bucket_new W 2 5
  have hbel : Below W.heap.size W (W.alloc (.cells #[.int .i64 2, .int .i64 5, .int .i64 5, .int .i64 0] 36)) := (Below.refl _ _).alloc (Nat.le_refl _) _
  have hsz : W.heap.size < (W.alloc (.cells #[.int .i64 2, .int .i64 5, .int .i64 5, .int .i64 0] 36)).heap.size := by simp
  generalize W.alloc (.cells #[.int .i64 2, .int .i64 5, .int .i64 5, .int .i64 0] 36) = w1 at *
  have Hb1 := Rp.hid hb1; clear hb1
  have Hbel := Rp.hid hbel; clear hbel
  go_wp2_with fail
  refine (take_ok W.heap.size 2 5 5 0 9 w1 Hb1.out (by omega) (by omega) (by omega) (by omega)).mono ?_
  rintro e w2 ⟨rfl, _, ho⟩
  simp only [show min (9 : Int) 5 = 5 from rfl]
  have hbel2 : Below W.heap.size W w2 := Hbel.out.trans (ho.below (Nat.le_refl _) (by omega))
  have hsz2 : W.heap.size < w2.heap.size := by have := ho.size; omega
  clear Hb1 Hbel ho hsz
  have Hbel := Rp.hid hbel2; clear hbel2
  go_wp2_with fail
  by_cases hbad : rate < 1 ∨ 1000 < rate ∨ burst < rate ∨ 1000000 < burst
  · refine (new_bad rate burst _ hbad).mono ?_
    rintro e w3 ⟨rfl, rfl⟩
    obtain ⟨hr1, hr2⟩ := hr
    obtain ⟨hb1, hb2⟩ := hb
    rcases hbad with h | h | h | h
    · go_wp2_with fail
      go_ret
      exact ⟨rfl, Hbel.out⟩
    · go_wp2_with fail
      go_ret
      exact ⟨rfl, Hbel.out⟩
    · go_wp2_with fail
      all_goals (go_ret; exact ⟨rfl, Hbel.out⟩)
    · go_wp2_with fail
      all_goals (go_ret; exact ⟨rfl, Hbel.out⟩)
  have hr1 : 1 ≤ rate := by omega
  have hr2 : rate ≤ 1000 := by omega
  have hr3 : rate ≤ burst := by omega
  have hr4 : burst ≤ 1000000 := by omega
  clear hbad
  refine (new_ok rate burst _ hr1 hr2 hr3 hr4).mono ?_
  rintro e w3 ⟨rfl, rfl⟩
  have hb1 := bucket_new w2 rate burst
  have hbel : Below W.heap.size W (w2.alloc (.cells #[.int .i64 rate, .int .i64 burst, .int .i64 burst, .int .i64 0] 36)) := Hbel.out.alloc (by omega) _
  have hsz : w2.heap.size < (w2.alloc (.cells #[.int .i64 rate, .int .i64 burst, .int .i64 burst, .int .i64 0] 36)).heap.size := by simp
  generalize w2.alloc (.cells #[.int .i64 rate, .int .i64 burst, .int .i64 burst, .int .i64 0] 36) = w3 at *
  have Hb1 := Rp.hid hb1; clear hb1
  have Hbel := Rp.hid hbel; clear hbel
  go_wp2_with fail
  go_loopw [13, 81] (fun bal i wr => ∃ (k : Nat) (q : Int), k ≤ ops.length ∧ i = .int .i64 k ∧ bal = .int .i64 q ∧ -burst ≤ q ∧ q ≤ burst ∧ Hid (Bucket wr w2.heap.size rate burst (max q 0) (max (-q) 0)) ∧ Hid (Below W.heap.size W wr)) (fun _ i _ => ops.length - (intOf i).toNat)
  case atStart => exact ⟨0, burst, Nat.zero_le _, rfl, rfl, by omega, by omega, by rw [show max burst 0 = burst by omega, show max (-burst) 0 = 0 by omega]; exact Hb1, Hbel⟩
  case round =>
    obtain ⟨k, q, hk, rfl, rfl, hq1, hq2, HB, HL⟩ := hrel
    by_cases hlt : k < ops.length
    · obtain ⟨b, off, es, rfl, hbB, hes, hc⟩ := H5.out k hlt
      obtain ⟨x, rfl⟩ : ∃ x, es = [x] := by
        have := Rep.len hes
        match es, this with
        | [x], _ => exact ⟨x, rfl⟩
      have hx : wr.cell? ⟨b, off + k, none⟩ = some x := by
        have h0 := hc 0 (by decide)
        simp only [show Rep.n (List Int) = 1 from rfl, Nat.mul_one, Nat.add_zero] at h0
        rw [(bcell HL.out).1 _ _ hbB, h0]; rfl
      have Hop := Rp.hid (Rep.below hes HL.out)
      clear hc hes
      have hn : InI64 (ops[k].getD 1 0) := getD_in Hop.out 1
      generalize hop : ops[k] = op at *
      clear hop
      generalize hnn : op.getD 1 0 = n at *
      generalize hcc : op.getD 0 0 = c at *
      have Hnn := Rp.hid hnn; clear hnn
      have Hcc := Rp.hid hcc; clear hcc
      obtain ⟨hn1, hn2⟩ := hn
      go_wp2_with fail
      refine (arg_any op _ _ 1 _ Hop.out (by omega)).mono ?_
      rintro e w4 ⟨rfl, rfl⟩
      rw [Hnn.out]
      by_cases hval : 0 ≤ n ∧ n ≤ 1000000
      · obtain ⟨hv1, hv2⟩ := hval
        go_wp2_with fail
        refine (arg_any op _ _ 0 _ Hop.out (by omega)).mono ?_
        rintro e w4 ⟨rfl, rfl⟩
        rw [Hcc.out]
        by_cases h1 : c = 1
        · as_aux_lemma =>
            subst h1
            have hg0 : 0 ≤ n * rate := Int.mul_nonneg hv1 (by omega)
            have hg1 : n * rate ≤ 1000000 * 1000 := Int.mul_le_mul hv2 hr2 (by omega) (by omega)
            go_wp2_with fail
            refine (adv_ok w2.heap.size rate burst _ _ n _ HB.out hv1 hv2 (by omega) (by omega) hr1 hr2 (by omega) (by omega) (by omega) hr4 hg0 hg1).mono ?_
            rintro e w5 ⟨rfl, hB2, ho⟩
            obtain ⟨T, eT⟩ : ∃ T, T = min burst (max q 0 + n * rate - min (n * rate) (max (-q) 0)) := ⟨_, rfl⟩
            obtain ⟨D, eD⟩ : ∃ D, D = max (-q) 0 - min (n * rate) (max (-q) 0) := ⟨_, rfl⟩
            rw [← eT, ← eD] at hB2
            have HB2 := Rp.hid hB2; clear hB2 HB
            have HL2 := Rp.hid (HL.out.trans (ho.below (Nat.le_of_lt hsz2) (by have := HL.out.size; omega))); clear ho HL
            have hT1 : T ≤ max (min burst (q + n * rate)) 0 := by omega
            have hT2 : max (min burst (q + n * rate)) 0 ≤ T := by omega
            have hD1 : D ≤ max (-(min burst (q + n * rate))) 0 := by omega
            have hD2 : max (-(min burst (q + n * rate))) 0 ≤ D := by omega
            clear eT eD
            go_wp2_with fail
            all_goals (refine (avail_ok w2.heap.size rate burst T D _ HB2.out).mono ?_; rintro e w6 ⟨rfl, qn, rfl⟩; go_wp2_with fail)
            all_goals
              go_roundw
              case rel => exact ⟨k + 1, min burst (q + n * rate), by omega, by go_num, by go_num, by omega, by omega, by rw [show max (min burst (q + n * rate)) 0 = T by omega, show max (-(min burst (q + n * rate))) 0 = D by omega]; exact HB2, Rp.hid (Below.drewN HL2.out qn)⟩
              case measure => simp [intOf]; omega
        by_cases h2 : c = 2
        · as_aux_lemma =>
            subst h2
            go_wp2_with fail
            refine (take_ok w2.heap.size rate burst _ _ n _ HB.out hv1 hv2 (by omega) (by omega)).mono ?_
            rintro e w5 ⟨rfl, hB2, ho⟩
            obtain ⟨T, eT⟩ : ∃ T, T = max q 0 - min n (max q 0) := ⟨_, rfl⟩
            obtain ⟨D, eD⟩ : ∃ D, D = max (-q) 0 := ⟨_, rfl⟩
            rw [← eT, ← eD] at hB2
            obtain ⟨R, eR⟩ : ∃ R, R = min n (max q 0) := ⟨_, rfl⟩
            rw [← eR]
            have hR1 : R ≤ min n (max q 0) := by omega
            have hR2 : min n (max q 0) ≤ R := by omega
            have HB2 := Rp.hid hB2; clear hB2 HB
            have HL2 := Rp.hid (HL.out.trans (ho.below (Nat.le_of_lt hsz2) (by have := HL.out.size; omega))); clear ho HL
            have hT1 : T ≤ max (q - min n (max q 0)) 0 := by omega
            have hT2 : max (q - min n (max q 0)) 0 ≤ T := by omega
            have hD1 : D ≤ max (-(q - min n (max q 0))) 0 := by omega
            have hD2 : max (-(q - min n (max q 0))) 0 ≤ D := by omega
            clear eT eD
            clear eR
            go_wp2_with fail
            all_goals (refine (avail_ok w2.heap.size rate burst T D _ HB2.out).mono ?_; rintro e w6 ⟨rfl, qn, rfl⟩; go_wp2_with fail)
            all_goals
              go_roundw
              case rel => exact ⟨k + 1, q - min n (max q 0), by omega, by go_num, by go_num, by omega, by omega, by rw [show max (q - min n (max q 0)) 0 = T by omega, show max (-(q - min n (max q 0))) 0 = D by omega]; exact HB2, Rp.hid (Below.drewN HL2.out qn)⟩
              case measure => simp [intOf]; omega
        by_cases h3 : c = 3
        · as_aux_lemma =>
            subst h3
            go_wp2_with fail
            refine (force_ok w2.heap.size rate burst _ _ n _ HB.out hv1 hv2 (by omega) (by omega) (by omega) (by omega) (by omega) hr4).mono ?_
            rintro e w5 ⟨rfl, hB2, ho⟩
            obtain ⟨T, eT⟩ : ∃ T, T = max q 0 - min n (max q 0) := ⟨_, rfl⟩
            obtain ⟨D, eD⟩ : ∃ D, D = min (max (-q) 0 + n - min n (max q 0)) burst := ⟨_, rfl⟩
            rw [← eT, ← eD] at hB2
            have HB2 := Rp.hid hB2; clear hB2 HB
            have HL2 := Rp.hid (HL.out.trans (ho.below (Nat.le_of_lt hsz2) (by have := HL.out.size; omega))); clear ho HL
            have hT1 : T ≤ max (max (q - n) (-burst)) 0 := by omega
            have hT2 : max (max (q - n) (-burst)) 0 ≤ T := by omega
            have hD1 : D ≤ max (-(max (q - n) (-burst))) 0 := by omega
            have hD2 : max (-(max (q - n) (-burst))) 0 ≤ D := by omega
            clear eT eD
            go_wp2_with fail
            all_goals (refine (avail_ok w2.heap.size rate burst T D _ HB2.out).mono ?_; rintro e w6 ⟨rfl, qn, rfl⟩; go_wp2_with fail)
            all_goals
              go_roundw
              case rel => exact ⟨k + 1, max (q - n) (-burst), by omega, by go_num, by go_num, by omega, by omega, by rw [show max (max (q - n) (-burst)) 0 = T by omega, show max (-(max (q - n) (-burst))) 0 = D by omega]; exact HB2, Rp.hid (Below.drewN HL2.out qn)⟩
              case measure => simp [intOf]; omega
        by_cases h4 : c = 4
        · as_aux_lemma =>
            subst h4
            by_cases g1 : burst < n
            · have X : Hid (ticks rate burst (max q 0) (max (-q) 0) n = 0 ∧ ticksE burst n = 4) := by constructor <;> simp [ticks, ticksE, g1] <;> omega
              go_wp2_with fail
              refine (until2 w2.heap.size rate burst _ _ n _ HB.out (by omega) (by omega) hr1 hr2 (by omega) (by omega) (by omega) hr4 ⟨hn1, hn2⟩).mono ?_
              rintro e w5 ⟨rfl, hB2, ho⟩
              rw [show ticks rate burst (max q 0) (max (-q) 0) n = 0 from X.out.1, show ticksE burst n = 4 from X.out.2]
              obtain ⟨T, eT⟩ : ∃ T, T = max q 0 := ⟨_, rfl⟩
              obtain ⟨D, eD⟩ : ∃ D, D = max (-q) 0 := ⟨_, rfl⟩
              rw [← eT, ← eD] at hB2
              have HB2 := Rp.hid hB2; clear hB2 HB
              have HL2 := Rp.hid (HL.out.trans (ho.below (Nat.le_of_lt hsz2) (by have := HL.out.size; omega))); clear ho HL
              have hT1 : T ≤ max (q) 0 := by omega
              have hT2 : max (q) 0 ≤ T := by omega
              have hD1 : D ≤ max (-(q)) 0 := by omega
              have hD2 : max (-(q)) 0 ≤ D := by omega
              clear eT eD
              go_wp2_with fail
              all_goals (refine (avail_ok w2.heap.size rate burst T D _ HB2.out).mono ?_; rintro e w6 ⟨rfl, qn, rfl⟩; go_wp2_with fail)
              all_goals
                go_roundw
                case rel => exact ⟨k + 1, q, by omega, by go_num, by go_num, by omega, by omega, by rw [show max (q) 0 = T by omega, show max (-(q)) 0 = D by omega]; exact HB2, Rp.hid (Below.drewN HL2.out qn)⟩
                case measure => simp [intOf]; omega
            by_cases g2 : n = 0
            · have g2a : n ≤ 0 := by omega
              clear g2
              have X : Hid (ticks rate burst (max q 0) (max (-q) 0) n = 0 ∧ ticksE burst n = 0) := by constructor <;> simp [ticks, ticksE] <;> omega
              go_wp2_with fail
              refine (until2 w2.heap.size rate burst _ _ n _ HB.out (by omega) (by omega) hr1 hr2 (by omega) (by omega) (by omega) hr4 ⟨hn1, hn2⟩).mono ?_
              rintro e w5 ⟨rfl, hB2, ho⟩
              rw [show ticks rate burst (max q 0) (max (-q) 0) n = 0 from X.out.1, show ticksE burst n = 0 from X.out.2]
              obtain ⟨T, eT⟩ : ∃ T, T = max q 0 := ⟨_, rfl⟩
              obtain ⟨D, eD⟩ : ∃ D, D = max (-q) 0 := ⟨_, rfl⟩
              rw [← eT, ← eD] at hB2
              have HB2 := Rp.hid hB2; clear hB2 HB
              have HL2 := Rp.hid (HL.out.trans (ho.below (Nat.le_of_lt hsz2) (by have := HL.out.size; omega))); clear ho HL
              have hT1 : T ≤ max (q) 0 := by omega
              have hT2 : max (q) 0 ≤ T := by omega
              have hD1 : D ≤ max (-(q)) 0 := by omega
              have hD2 : max (-(q)) 0 ≤ D := by omega
              clear eT eD
              go_wp2_with fail
              all_goals (refine (avail_ok w2.heap.size rate burst T D _ HB2.out).mono ?_; rintro e w6 ⟨rfl, qn, rfl⟩; go_wp2_with fail)
              all_goals
                go_roundw
                case rel => exact ⟨k + 1, q, by omega, by go_num, by go_num, by omega, by omega, by rw [show max (q) 0 = T by omega, show max (-(q)) 0 = D by omega]; exact HB2, Rp.hid (Below.drewN HL2.out qn)⟩
                case measure => simp [intOf]; omega
            by_cases g3 : q < n
            · have X : Hid (ticks rate burst (max q 0) (max (-q) 0) n = (n - q - 1) / rate + 1 ∧ ticksE burst n = 0) := by exact ⟨ticks_eq hr1 (by omega) (by omega) g3, by simp [ticksE]; omega⟩
              have d1 : 0 ≤ (n - q - 1) / rate := Int.ediv_nonneg (by omega) (by omega)
              have d2 : (n - q - 1) / rate ≤ 2000000 := Int.le_trans (Int.ediv_le_self _ (by omega)) (by omega)
              go_wp2_with fail
              refine (until2 w2.heap.size rate burst _ _ n _ HB.out (by omega) (by omega) hr1 hr2 (by omega) (by omega) (by omega) hr4 ⟨hn1, hn2⟩).mono ?_
              rintro e w5 ⟨rfl, hB2, ho⟩
              rw [show ticks rate burst (max q 0) (max (-q) 0) n = (n - q - 1) / rate + 1 from X.out.1, show ticksE burst n = 0 from X.out.2]
              obtain ⟨T, eT⟩ : ∃ T, T = max q 0 := ⟨_, rfl⟩
              obtain ⟨D, eD⟩ : ∃ D, D = max (-q) 0 := ⟨_, rfl⟩
              rw [← eT, ← eD] at hB2
              have HB2 := Rp.hid hB2; clear hB2 HB
              have HL2 := Rp.hid (HL.out.trans (ho.below (Nat.le_of_lt hsz2) (by have := HL.out.size; omega))); clear ho HL
              have hT1 : T ≤ max (q) 0 := by omega
              have hT2 : max (q) 0 ≤ T := by omega
              have hD1 : D ≤ max (-(q)) 0 := by omega
              have hD2 : max (-(q)) 0 ≤ D := by omega
              clear eT eD
              go_wp2_with fail
              all_goals (refine (avail_ok w2.heap.size rate burst T D _ HB2.out).mono ?_; rintro e w6 ⟨rfl, qn, rfl⟩; generalize (n - q - 1) / rate + 1 = Z; go_wp2_with fail)
              all_goals
                go_roundw
                case rel => exact ⟨k + 1, q, by omega, by go_num, by go_num, by omega, by omega, by rw [show max (q) 0 = T by omega, show max (-(q)) 0 = D by omega]; exact HB2, Rp.hid (Below.drewN HL2.out qn)⟩
                case measure => simp [intOf]; omega
            · have X : Hid (ticks rate burst (max q 0) (max (-q) 0) n = 0 ∧ ticksE burst n = 0) := by constructor <;> simp [ticks, ticksE] <;> omega
              go_wp2_with fail
              refine (until2 w2.heap.size rate burst _ _ n _ HB.out (by omega) (by omega) hr1 hr2 (by omega) (by omega) (by omega) hr4 ⟨hn1, hn2⟩).mono ?_
              rintro e w5 ⟨rfl, hB2, ho⟩
              rw [show ticks rate burst (max q 0) (max (-q) 0) n = 0 from X.out.1, show ticksE burst n = 0 from X.out.2]
              obtain ⟨T, eT⟩ : ∃ T, T = max q 0 := ⟨_, rfl⟩
              obtain ⟨D, eD⟩ : ∃ D, D = max (-q) 0 := ⟨_, rfl⟩
              rw [← eT, ← eD] at hB2
              have HB2 := Rp.hid hB2; clear hB2 HB
              have HL2 := Rp.hid (HL.out.trans (ho.below (Nat.le_of_lt hsz2) (by have := HL.out.size; omega))); clear ho HL
              have hT1 : T ≤ max (q) 0 := by omega
              have hT2 : max (q) 0 ≤ T := by omega
              have hD1 : D ≤ max (-(q)) 0 := by omega
              have hD2 : max (-(q)) 0 ≤ D := by omega
              clear eT eD
              go_wp2_with fail
              all_goals (refine (avail_ok w2.heap.size rate burst T D _ HB2.out).mono ?_; rintro e w6 ⟨rfl, qn, rfl⟩; go_wp2_with fail)
              all_goals
                go_roundw
                case rel => exact ⟨k + 1, q, by omega, by go_num, by go_num, by omega, by omega, by rw [show max (q) 0 = T by omega, show max (-(q)) 0 = D by omega]; exact HB2, Rp.hid (Below.drewN HL2.out qn)⟩
                case measure => simp [intOf]; omega
        · as_aux_lemma =>
            obtain ⟨T, eT⟩ : ∃ T, T = max q 0 := ⟨_, rfl⟩
            obtain ⟨D, eD⟩ : ∃ D, D = max (-q) 0 := ⟨_, rfl⟩
            rw [← eT, ← eD] at HB
            have HB2 := HB; clear HB
            have HL2 := HL; clear HL
            have hT1 : T ≤ max (q) 0 := by omega
            have hT2 : max (q) 0 ≤ T := by omega
            have hD1 : D ≤ max (-(q)) 0 := by omega
            have hD2 : max (-(q)) 0 ≤ D := by omega
            clear eT eD
            go_wp2_with fail
            all_goals (refine (avail_ok w2.heap.size rate burst T D _ HB2.out).mono ?_; rintro e w6 ⟨rfl, qn, rfl⟩; go_wp2_with fail)
            all_goals
              go_roundw
              case rel => exact ⟨k + 1, q, by omega, by go_num, by go_num, by omega, by omega, by rw [show max (q) 0 = T by omega, show max (-(q)) 0 = D by omega]; exact HB2, Rp.hid (Below.drewN HL2.out qn)⟩
              case measure => simp [intOf]; omega
      · as_aux_lemma =>
          have hbad : n < 0 ∨ 1000000 < n := by omega
          clear hval
          by_cases hneg : n < 0
          all_goals
            go_wp2_with fail
            refine (arg_any op _ _ 0 _ Hop.out (by omega)).mono ?_
            rintro e w4 ⟨rfl, rfl⟩
            rw [Hcc.out]
            by_cases h1 : c = 1
            · subst h1
              go_wp2_with fail
              refine (adv_bad w2.heap.size n _ (by omega)).mono ?_
              rintro e w5 ⟨rfl, rfl⟩
              obtain ⟨T, eT⟩ : ∃ T, T = max q 0 := ⟨_, rfl⟩
              obtain ⟨D, eD⟩ : ∃ D, D = max (-q) 0 := ⟨_, rfl⟩
              rw [← eT, ← eD] at HB
              have HB2 := HB; clear HB
              have HL2 := HL; clear HL
              have hT1 : T ≤ max (q) 0 := by omega
              have hT2 : max (q) 0 ≤ T := by omega
              have hD1 : D ≤ max (-(q)) 0 := by omega
              have hD2 : max (-(q)) 0 ≤ D := by omega
              clear eT eD
              go_wp2_with fail
              all_goals (refine (avail_ok w2.heap.size rate burst T D _ HB2.out).mono ?_; rintro e w6 ⟨rfl, qn, rfl⟩; go_wp2_with fail)
              all_goals
                go_roundw
                case rel => exact ⟨k + 1, q, by omega, by go_num, by go_num, by omega, by omega, by rw [show max (q) 0 = T by omega, show max (-(q)) 0 = D by omega]; exact HB2, Rp.hid (Below.drewN HL2.out qn)⟩
                case measure => simp [intOf]; omega
            by_cases h2 : c = 2
            · subst h2
              go_wp2_with fail
              refine (take_bad w2.heap.size n _ (by omega)).mono ?_
              rintro e w5 ⟨rfl, rfl⟩
              obtain ⟨T, eT⟩ : ∃ T, T = max q 0 := ⟨_, rfl⟩
              obtain ⟨D, eD⟩ : ∃ D, D = max (-q) 0 := ⟨_, rfl⟩
              rw [← eT, ← eD] at HB
              have HB2 := HB; clear HB
              have HL2 := HL; clear HL
              have hT1 : T ≤ max (q) 0 := by omega
              have hT2 : max (q) 0 ≤ T := by omega
              have hD1 : D ≤ max (-(q)) 0 := by omega
              have hD2 : max (-(q)) 0 ≤ D := by omega
              clear eT eD
              go_wp2_with fail
              all_goals (refine (avail_ok w2.heap.size rate burst T D _ HB2.out).mono ?_; rintro e w6 ⟨rfl, qn, rfl⟩; go_wp2_with fail)
              all_goals
                go_roundw
                case rel => exact ⟨k + 1, q, by omega, by go_num, by go_num, by omega, by omega, by rw [show max (q) 0 = T by omega, show max (-(q)) 0 = D by omega]; exact HB2, Rp.hid (Below.drewN HL2.out qn)⟩
                case measure => simp [intOf]; omega
            by_cases h3 : c = 3
            · subst h3
              go_wp2_with fail
              refine (force_bad w2.heap.size n _ (by omega)).mono ?_
              rintro e w5 ⟨rfl, rfl⟩
              obtain ⟨T, eT⟩ : ∃ T, T = max q 0 := ⟨_, rfl⟩
              obtain ⟨D, eD⟩ : ∃ D, D = max (-q) 0 := ⟨_, rfl⟩
              rw [← eT, ← eD] at HB
              have HB2 := HB; clear HB
              have HL2 := HL; clear HL
              have hT1 : T ≤ max (q) 0 := by omega
              have hT2 : max (q) 0 ≤ T := by omega
              have hD1 : D ≤ max (-(q)) 0 := by omega
              have hD2 : max (-(q)) 0 ≤ D := by omega
              clear eT eD
              go_wp2_with fail
              all_goals (refine (avail_ok w2.heap.size rate burst T D _ HB2.out).mono ?_; rintro e w6 ⟨rfl, qn, rfl⟩; go_wp2_with fail)
              all_goals
                go_roundw
                case rel => exact ⟨k + 1, q, by omega, by go_num, by go_num, by omega, by omega, by rw [show max (q) 0 = T by omega, show max (-(q)) 0 = D by omega]; exact HB2, Rp.hid (Below.drewN HL2.out qn)⟩
                case measure => simp [intOf]; omega
            by_cases h4 : c = 4
            · subst h4
              by_cases g1 : burst < n
              · have X : Hid (ticks rate burst (max q 0) (max (-q) 0) n = 0 ∧ ticksE burst n = 4) := by constructor <;> simp [ticks, ticksE, g1] <;> omega
                go_wp2_with fail
                refine (until2 w2.heap.size rate burst _ _ n _ HB.out (by omega) (by omega) hr1 hr2 (by omega) (by omega) (by omega) hr4 ⟨hn1, hn2⟩).mono ?_
                rintro e w5 ⟨rfl, hB2, ho⟩
                rw [show ticks rate burst (max q 0) (max (-q) 0) n = 0 from X.out.1, show ticksE burst n = 4 from X.out.2]
                obtain ⟨T, eT⟩ : ∃ T, T = max q 0 := ⟨_, rfl⟩
                obtain ⟨D, eD⟩ : ∃ D, D = max (-q) 0 := ⟨_, rfl⟩
                rw [← eT, ← eD] at hB2
                have HB2 := Rp.hid hB2; clear hB2 HB
                have HL2 := Rp.hid (HL.out.trans (ho.below (Nat.le_of_lt hsz2) (by have := HL.out.size; omega))); clear ho HL
                have hT1 : T ≤ max (q) 0 := by omega
                have hT2 : max (q) 0 ≤ T := by omega
                have hD1 : D ≤ max (-(q)) 0 := by omega
                have hD2 : max (-(q)) 0 ≤ D := by omega
                clear eT eD
                go_wp2_with fail
                all_goals (refine (avail_ok w2.heap.size rate burst T D _ HB2.out).mono ?_; rintro e w6 ⟨rfl, qn, rfl⟩; go_wp2_with fail)
                all_goals
                  go_roundw
                  case rel => exact ⟨k + 1, q, by omega, by go_num, by go_num, by omega, by omega, by rw [show max (q) 0 = T by omega, show max (-(q)) 0 = D by omega]; exact HB2, Rp.hid (Below.drewN HL2.out qn)⟩
                  case measure => simp [intOf]; omega
              · have X : Hid (ticks rate burst (max q 0) (max (-q) 0) n = 0 ∧ ticksE burst n = 1) := by constructor <;> simp [ticks, ticksE] <;> omega
                go_wp2_with fail
                refine (until2 w2.heap.size rate burst _ _ n _ HB.out (by omega) (by omega) hr1 hr2 (by omega) (by omega) (by omega) hr4 ⟨hn1, hn2⟩).mono ?_
                rintro e w5 ⟨rfl, hB2, ho⟩
                rw [show ticks rate burst (max q 0) (max (-q) 0) n = 0 from X.out.1, show ticksE burst n = 1 from X.out.2]
                obtain ⟨T, eT⟩ : ∃ T, T = max q 0 := ⟨_, rfl⟩
                obtain ⟨D, eD⟩ : ∃ D, D = max (-q) 0 := ⟨_, rfl⟩
                rw [← eT, ← eD] at hB2
                have HB2 := Rp.hid hB2; clear hB2 HB
                have HL2 := Rp.hid (HL.out.trans (ho.below (Nat.le_of_lt hsz2) (by have := HL.out.size; omega))); clear ho HL
                have hT1 : T ≤ max (q) 0 := by omega
                have hT2 : max (q) 0 ≤ T := by omega
                have hD1 : D ≤ max (-(q)) 0 := by omega
                have hD2 : max (-(q)) 0 ≤ D := by omega
                clear eT eD
                go_wp2_with fail
                all_goals (refine (avail_ok w2.heap.size rate burst T D _ HB2.out).mono ?_; rintro e w6 ⟨rfl, qn, rfl⟩; go_wp2_with fail)
                all_goals
                  go_roundw
                  case rel => exact ⟨k + 1, q, by omega, by go_num, by go_num, by omega, by omega, by rw [show max (q) 0 = T by omega, show max (-(q)) 0 = D by omega]; exact HB2, Rp.hid (Below.drewN HL2.out qn)⟩
                  case measure => simp [intOf]; omega
            · obtain ⟨T, eT⟩ : ∃ T, T = max q 0 := ⟨_, rfl⟩
              obtain ⟨D, eD⟩ : ∃ D, D = max (-q) 0 := ⟨_, rfl⟩
              rw [← eT, ← eD] at HB
              have HB2 := HB; clear HB
              have HL2 := HL; clear HL
              have hT1 : T ≤ max (q) 0 := by omega
              have hT2 : max (q) 0 ≤ T := by omega
              have hD1 : D ≤ max (-(q)) 0 := by omega
              have hD2 : max (-(q)) 0 ≤ D := by omega
              clear eT eD
              go_wp2_with fail
              all_goals (refine (avail_ok w2.heap.size rate burst T D _ HB2.out).mono ?_; rintro e w6 ⟨rfl, qn, rfl⟩; go_wp2_with fail)
              all_goals
                go_roundw
                case rel => exact ⟨k + 1, q, by omega, by go_num, by go_num, by omega, by omega, by rw [show max (q) 0 = T by omega, show max (-(q)) 0 = D by omega]; exact HB2, Rp.hid (Below.drewN HL2.out qn)⟩
                case measure => simp [intOf]; omega
    · go_wp2_with fail
      go_ret
      exact ⟨rfl, HL.out⟩
end Go.Proofs.Ytbhmaafneibdjaa
