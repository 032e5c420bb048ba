/- interleaving.Equivalent. -/
import Derived.Test.YtabjbkdlacibjaaEq4
namespace Go.Proofs.Ytabjbkdlacibjaa
open Go.RowKit Go.Rp

theorem firstErr_ok : ∀ {h : List Op}, firstErr h = 0 → Kinds h
  | [], _ => fun o ho => by cases ho
  | x :: r, hh => by
    simp only [firstErr] at hh
    split at hh
    · rename_i h0
      intro o ho
      rcases List.mem_cons.1 ho with rfl | ho
      · unfold opErr at h0
        split at h0
        · omega
        · rename_i h1; exact Classical.not_not.1 h1
      · exact firstErr_ok hh o ho
    · rename_i h0; exact absurd hh h0
theorem checkH_ok {h : List Op} (hh : checkH h = 0) : h.length ≤ 200 ∧ Kinds h := by
  unfold checkH at hh
  split at hh
  · omega
  · exact ⟨by omega, firstErr_ok hh⟩

def eqvB (a b : List Op) : Bool := decide (checkH a = 0) && (decide (checkH b = 0) && eqList opEq (nfS a.length a) (nfS b.length b))
def eqvE (a b : List Op) : Int := if checkH a = 0 then checkH b else checkH a

theorem retBI {a c : Bool} {b d : Int} (h : a = c) (h' : b = d) : Ending.returned (.tuple #[.bool a, .int .i64 b]) = .returned (.tuple #[.bool c, .int .i64 d]) := by rw [h, h']

set_option maxHeartbeats 400000 in
theorem equivalent10 (a b : List Op) (va vb : Value) (w : World) (ha : Rep.is w w.heap.size a [va]) (hb : Rep.is w w.heap.size b [vb]) :
    Calls Try.prog 10 #[va, vb] w fun e w' => e = .returned (.tuple #[.bool (eqvB a b), .int .i64 (eqvE a b)]) ∧ Below w.heap.size w w' := by
  have HA := Rp.hid ha; clear ha
  have HB := Rp.hid hb; clear hb
  obtain ⟨ea, hea⟩ : ∃ ea, checkH a = ea := ⟨_, rfl⟩
  obtain ⟨eb, heb⟩ : ∃ eb, checkH b = eb := ⟨_, rfl⟩
  have HEA := Rp.hid hea
  have HEB := Rp.hid heb
  by_cases h1 : ea = 0
  case neg =>
    have F : Hid (eqvB a b = false ∧ eqvE a b = ea) := by
      constructor
      · simp [eqvB, hea, h1]
      · simp [eqvE, hea, h1]
    have h1' : (ea != 0) = true := by simpa using h1
    clear hea heb h1
    go_enter Try.func10, Try.ntmps10
    go_wp2_with fail
    refine (check18 a va _ w HA.out (Nat.le_refl _) ea HEA.out).mono ?_
    rintro e w1 ⟨rfl, hb1⟩
    have HL := Rp.hid hb1; clear hb1
    go_wp2_with fail
    go_ret2
    exact ⟨retBI F.out.1.symm F.out.2.symm, HL.out⟩
  by_cases h2 : eb = 0
  case neg =>
    have F : Hid (eqvB a b = false ∧ eqvE a b = eb) := by
      constructor
      · simp [eqvB, heb, h2]
      · simp [eqvE, hea, heb, h1]
    have h2' : (eb != 0) = true := by simpa using h2
    have h1' : (ea != 0) = false := by simpa using h1
    clear hea heb h1 h2
    go_enter Try.func10, Try.ntmps10
    go_wp2_with fail
    refine (check18 a va _ w HA.out (Nat.le_refl _) ea HEA.out).mono ?_
    rintro e w1 ⟨rfl, hb1⟩
    have HL := Rp.hid hb1
    have HB1 := Rp.hid (Rep.mono (Rep.below HB.out hb1) hb1.size); clear hb1
    go_wp2_with fail
    refine (check18 b vb _ w1 HB1.out (Nat.le_refl _) eb HEB.out).mono ?_
    rintro e w2 ⟨rfl, hb2⟩
    have HL2 := Rp.hid (HL.out.step hb2); clear hb2
    go_wp2_with fail
    go_ret2
    exact ⟨retBI F.out.1.symm F.out.2.symm, HL2.out⟩
  · have F : Hid (eqvB a b = eqList opEq (nfS a.length a) (nfS b.length b) ∧ eqvE a b = 0) := by
      constructor
      · simp [eqvB, hea, heb, h1, h2]
      · simp [eqvE, hea, heb, h1, h2]
    subst h1
    subst h2
    obtain ⟨la, ka⟩ := checkH_ok hea
    obtain ⟨lb, kb⟩ := checkH_ok heb
    clear hea heb ka kb
    go_enter Try.func10, Try.ntmps10
    go_wp2_with fail
    refine (check18 a va _ w HA.out (Nat.le_refl _) 0 HEA.out).mono ?_
    rintro e w1 ⟨rfl, hb1⟩
    have HL := Rp.hid hb1
    have HB1 := Rp.hid (Rep.mono (Rep.below HB.out hb1) hb1.size)
    have HA1 := Rp.hid (Rep.mono (Rep.below HA.out hb1) hb1.size); clear hb1
    go_wp2_with fail
    refine (check18 b vb _ w1 HB1.out (Nat.le_refl _) 0 HEB.out).mono ?_
    rintro e w2 ⟨rfl, hb2⟩
    have HL2 := Rp.hid (HL.out.step hb2)
    have HB2 := Rp.hid (Rep.mono (Rep.below HB1.out hb2) hb2.size)
    have HA2 := Rp.hid (Rep.mono (Rep.below HA1.out hb2) hb2.size); clear hb2
    go_wp2_with fail
    refine (normalForm54 a va _ w2 HA2.out (Nat.le_refl _) la).mono ?_
    rintro e w3 ⟨u, rfl, hO3, hb3⟩
    have HL3 := Rp.hid (HL2.out.step hb3)
    have HB3 := Rp.hid (Rep.mono (Rep.below HB2.out hb3) hb3.size)
    have HO3 := Rp.hid hO3; clear hb3 hO3
    go_wp2_with fail
    refine (normalForm54 b vb _ w3 HB3.out (Nat.le_refl _) lb).mono ?_
    rintro e w4 ⟨u2, rfl, hO4, hb4⟩
    have HL4 := Rp.hid (HL3.out.step hb4)
    have HO34 := Rp.hid (HO3.out.below hb4)
    have HO4 := Rp.hid hO4; clear hb4 hO4
    have n1 := nfS_len a.length a
    have n2 := nfS_len b.length b
    go_wp2_with fail
    refine (equal27 _ _ u u2 w4.heap.size w4 (HO34.out.is (by show _ * 32 ≤ reach; unfold reach; omega)) (HO4.out.is (by show _ * 32 ≤ reach; unfold reach; omega)) (Nat.le_refl _) _ rfl).mono ?_
    rintro e w5 ⟨rfl, hb5⟩
    have HL5 := Rp.hid (HL4.out.step hb5); clear hb5
    go_wp2_with fail
    go_ret2
    exact ⟨retBI F.out.1.symm F.out.2.symm, HL5.out⟩
end Go.Proofs.Ytabjbkdlacibjaa
