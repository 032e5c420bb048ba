/- The walk of EquivalentMatchesReference. -/
import Derived.Test.YtabjbkdlacibjaaEq5
namespace Go.Proofs.Ytabjbkdlacibjaa
open Go.RowKit Go.Rp

def mkOp (t k : Int) (s : ByteArray) : Op := ⟨(t, k, s, ())⟩
def lit1 : List Op := [mkOp 0 1 ⟨#[]⟩, mkOp 1 1 ⟨#[]⟩]
def lit2 : List Op := [mkOp 1 1 ⟨#[]⟩, mkOp 0 1 ⟨#[]⟩]
theorem lit_eqv : eqvB lit1 lit2 = true ∧ eqvE lit1 lit2 = 0 := by decide +kernel

/-- a row that was just made of literals -/
theorem made_n {α : Type} [Rep α] (w : World) (base : Nat) (e : TypeId) (xs : List α) (cs : List Value) (hf : ∀ w' B, Flat w' B xs cs) {n : Nat} (hn : w.heap.size = n) (hb : base ≤ n) (hm : xs.length ≤ maxLen) : Own (w.alloc (.cells cs.toArray e)) base e (.slice (some ⟨n, 0, none⟩) xs.length xs.length) xs := by
  subst hn
  have hl := (hf w 0).length
  refine ⟨cs, ⟨hl, .inr ⟨w.heap.size, xs.length, cs.toArray, rfl, hb, ?_, Nat.le_refl _, hm, by simp [hl], by simp [← hl]⟩⟩, hf _ _⟩
  show (w.heap.push _)[w.heap.size]? = _
  simp

theorem rep_len {w : World} {B : Nat} {xs : List Op} {v : Value} (h : Rep.is w B xs [v]) : xs.length * 32 ≤ reach := by
  obtain ⟨_, _, _, _, _, h3, _⟩ := h
  exact h3

theorem flat_op (w' : World) (B : Nat) (t k : Int) (s : ByteArray) (ht : InI64 t) (hk : InI64 k) (hs : s.size ≤ reach) (r : List Op) (cs : List Value) (h : Flat w' B r cs) : Flat w' B (mkOp t k s :: r) (.int .i64 t :: .int .i64 k :: .string s :: cs) :=
  ⟨[.int .i64 t, .int .i64 k, .string s], cs, rfl, ⟨[.int .i64 t], [.int .i64 k, .string s], rfl, ⟨rfl, ht⟩, [.int .i64 k], [.string s], rfl, ⟨rfl, hk⟩, [.string s], [], rfl, ⟨rfl, hs⟩, rfl⟩, h⟩

set_option maxRecDepth 20000 in
set_option maxHeartbeats 1000000 in
theorem law3 (a b : List Op) (va vb : Value) (w : World) (ha : Rep.is w w.heap.size a [va]) (hb : Rep.is w w.heap.size b [vb]) :
    Calls Try.prog 3 #[va, vb] w fun e w' => e = .returned (.bool true) ∧ Below w.heap.size w w' := by
  have HA := Rp.hid ha; clear ha
  have HB := Rp.hid hb; clear hb
  go_enter Try.func3, Try.ntmps3
  go_wp2_with fail
  have i0 : InI64 0 := ⟨by omega, by omega⟩
  have i1 : InI64 1 := ⟨by omega, by omega⟩
  have s0 : (⟨#[]⟩ : ByteArray).size ≤ reach := by decide
  have O1 := made_n w w.heap.size 27 lit1 _ (fun w' B => flat_op w' B 0 1 ⟨#[]⟩ i0 i1 s0 _ _ (flat_op w' B 1 1 ⟨#[]⟩ i1 i1 s0 [] [] rfl)) rfl (Nat.le_refl _) (by decide +kernel)
  have O2 := made_n (w.alloc (.cells #[.int .i64 0, .int .i64 1, .string ⟨#[]⟩, .int .i64 1, .int .i64 1, .string ⟨#[]⟩] 27)) w.heap.size 27 lit2 _ (fun w' B => flat_op w' B 1 1 ⟨#[]⟩ i1 i1 s0 _ _ (flat_op w' B 0 1 ⟨#[]⟩ i0 i1 s0 [] [] rfl)) (n := w.heap.size + 1) (by simp) (by omega) (by decide +kernel)
  have O1' := O1.below (below1 _ (.cells #[.int .i64 1, .int .i64 1, .string ⟨#[]⟩, .int .i64 0, .int .i64 1, .string ⟨#[]⟩] 27))
  have hb0 := below2 w (.cells #[.int .i64 0, .int .i64 1, .string ⟨#[]⟩, .int .i64 1, .int .i64 1, .string ⟨#[]⟩] 27) (.cells #[.int .i64 1, .int .i64 1, .string ⟨#[]⟩, .int .i64 0, .int .i64 1, .string ⟨#[]⟩] 27)
  refine (equivalent10 lit1 lit2 _ _ _ (O1'.is (by decide +kernel)) (O2.is (by decide +kernel))).mono ?_
  rintro e w1 ⟨rfl, hb1⟩
  rw [lit_eqv.1, lit_eqv.2]
  have HL := Rp.hid (hb0.step hb1)
  have HA1 := Rp.hid (Rep.mono (Rep.below HA.out HL.out) HL.out.size)
  have HB1 := Rp.hid (Rep.mono (Rep.below HB.out HL.out) HL.out.size)
  clear O1 O2 O1' hb0 hb1 i0 i1 s0
  go_wp2_with fail
  refine (operations_is a va _ w1 HA1.out (Nat.le_refl _)).mono ?_
  rintro e w2 ⟨v2, rfl, hO2, hb2⟩
  have HO2 := Rp.hid hO2
  have HL2 := Rp.hid (HL.out.step hb2)
  have HB2 := Rp.hid (Rep.mono (Rep.below HB1.out hb2) hb2.size)
  have hza : Hid (a.length * 32 ≤ reach) := rep_len HA.out
  have hzb : Hid (b.length * 32 ≤ reach) := rep_len HB.out
  clear hO2 hb2
  go_wp2_with fail
  refine (operations_is b vb _ w2 HB2.out (Nat.le_refl _)).mono ?_
  rintro e w3 ⟨v3, rfl, hO3, hb3⟩
  have HO3 := Rp.hid hO3
  have HO23 := Rp.hid (HO2.out.below hb3)
  have HL3 := Rp.hid (HL2.out.step hb3)
  clear hO3 hb3
  go_wp2_with fail
  refine (equivalent10 a b _ _ w3 (HO23.out.is hza.out) (HO3.out.is hzb.out)).mono ?_
  rintro e w4 ⟨rfl, hb4⟩
  have HL4 := Rp.hid (HL3.out.step hb4)
  clear hb4
  have HA4 := Rp.hid (Rep.mono (Rep.below HA.out HL4.out) HL4.out.size)
  have HB4 := Rp.hid (Rep.mono (Rep.below HB.out HL4.out) HL4.out.size)
  obtain ⟨q, hq⟩ : ∃ q, eqvB a b = q := ⟨_, rfl⟩
  obtain ⟨r, hr⟩ : ∃ r, eqvE a b = r := ⟨_, rfl⟩
  obtain ⟨ea, hea⟩ : ∃ ea, checkH a = ea := ⟨_, rfl⟩
  obtain ⟨eb, heb⟩ : ∃ eb, checkH b = eb := ⟨_, rfl⟩
  rw [hq, hr]
  go_wp2_with fail
  refine (checkHistory_is a va _ w4 HA4.out (Nat.le_refl _) ea hea).mono ?_
  rintro e w5 ⟨rfl, hb5⟩
  have HL5 := Rp.hid (HL4.out.step hb5)
  have HA5 := Rp.hid (Rep.mono (Rep.below HA4.out hb5) hb5.size)
  have HB5 := Rp.hid (Rep.mono (Rep.below HB4.out hb5) hb5.size)
  clear hb5
  by_cases h1 : ea = 0
  case neg =>
    have hq2 : q = false := by rw [← hq]; simp [eqvB, hea, h1]
    have hr2 : r = ea := by rw [← hr]; simp [eqvE, hea, h1]
    subst hq2
    subst hr2
    have h1' : (r == 0) = false := by simpa using h1
    have h1'' : (r != 0) = true := by simpa using h1
    clear hea heb hq hr h1
    go_wp2_with fail
    go_ret
    exact ⟨rfl, HL5.out⟩
  subst h1
  obtain ⟨la, ka⟩ := checkH_ok hea
  go_wp2_with fail
  refine (checkHistory_is b vb _ w5 HB5.out (Nat.le_refl _) eb heb).mono ?_
  rintro e w6 ⟨rfl, hb6⟩
  have HL6 := Rp.hid (HL5.out.step hb6)
  have HA6 := Rp.hid (Rep.mono (Rep.below HA5.out hb6) hb6.size)
  have HB6 := Rp.hid (Rep.mono (Rep.below HB5.out hb6) hb6.size)
  clear hb6
  by_cases h2 : eb = 0
  case neg =>
    have hq2 : q = false := by rw [← hq]; simp [eqvB, heb, h2]
    have hr2 : r = eb := by rw [← hr]; simp [eqvE, hea, heb]
    subst hq2
    subst hr2
    have h1'' : (r != 0) = true := by simpa using h2
    clear hea heb hq hr h2
    go_wp2_with fail
    go_ret
    exact ⟨rfl, HL6.out⟩
  subst h2
  obtain ⟨lb, kb⟩ := checkH_ok heb
  have hr2 : r = 0 := by rw [← hr]; simp [eqvE, hea, heb]
  subst hr2
  have HQ : Hid (eqList opEq (nfS a.length a) (nfS b.length b) = q) := by show _ = _; rw [← hq]; simp [eqvB, hea, heb]
  have HKA := Rp.hid ka
  have HKB := Rp.hid kb
  clear hea heb hq hr ka kb
  go_wp2_with fail
  refine (normalForm14 a.length a va _ w6 rfl HA6.out (Nat.le_refl _) HKA.out la).mono ?_
  rintro e w7 ⟨u, rfl, hO7, hb7⟩
  have HL7 := Rp.hid (HL6.out.step hb7)
  have HB7 := Rp.hid (Rep.mono (Rep.below HB6.out hb7) hb7.size)
  have HO7 := Rp.hid hO7
  clear hO7 hb7
  go_wp2_with fail
  refine (normalForm14 b.length b vb _ w7 rfl HB7.out (Nat.le_refl _) HKB.out lb).mono ?_
  rintro e w8 ⟨u2, rfl, hO8, hb8⟩
  have HL8 := Rp.hid (HL7.out.step hb8)
  have HO78 := Rp.hid (HO7.out.below hb8)
  have HO8 := Rp.hid hO8
  clear hO8 hb8
  have n1 := nfS_len a.length a
  have n2 := nfS_len b.length b
  go_wp2_with fail
  refine (equal13 _ _ u u2 w8.heap.size w8 (HO78.out.is (by show _ * 32 ≤ reach; unfold reach; omega)) (HO8.out.is (by show _ * 32 ≤ reach; unfold reach; omega)) (Nat.le_refl _) q HQ.out).mono ?_
  rintro e w9 ⟨rfl, hb9⟩
  have HL9 := Rp.hid (HL8.out.step hb9)
  clear hb9
  go_wp2_with fail
  go_ret
  exact ⟨retB (by simp), HL9.out⟩
end Go.Proofs.Ytabjbkdlacibjaa
