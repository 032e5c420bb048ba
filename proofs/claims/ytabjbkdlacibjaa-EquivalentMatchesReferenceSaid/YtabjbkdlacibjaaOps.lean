/- The small functions over operations: Between, Conflict, Conflicts, CheckHistory. -/
import Derived.Test.YtabjbkdlacibjaaRows
import Derived.Test.YtabjbkdlacibjaaOwn
import Derived.WalkSpells
import Derived.WalkLawsBesides
import Derived.Outline
import Derived.RegionTactic
import Derived.Deep.QuietTactic
import Derived.BigQuiet
namespace Go.Proofs.Ytabjbkdlacibjaa
open Go.RowKit Go.Rp

abbrev Op := St (Int × Int × ByteArray × Unit)
def Op.tx (o : Op) : Int := o.val.1
def Op.kind (o : Op) : Int := o.val.2.1
def Op.key (o : Op) : ByteArray := o.val.2.2.1

theorem op_cells {w : World} {B : Nat} {o : Op} {cs : List Value} (h : Rep.is w B o cs) : cs = [.int .i64 o.tx, .int .i64 o.kind, .string o.key] ∧ InI64 o.tx ∧ InI64 o.kind ∧ o.key.size ≤ reach := by
  obtain ⟨c1, c2, rfl, ⟨rfl, h1⟩, c3, c4, rfl, ⟨rfl, h2⟩, c5, c6, rfl, ⟨rfl, h3⟩, rfl⟩ := h
  exact ⟨rfl, h1, h2, h3⟩

/-- the key, as a list of bytes -/
def Op.k (o : Op) : List UInt8 := o.key.toList
def conflictS (a b : Op) : Bool := a.tx != b.tx && (a.k == b.k && (a.kind == 2 || b.kind == 2))
def conflictR (a b : Op) : Bool := a.k == b.k && (a.tx != b.tx && decide (2 < a.kind + b.kind))

theorem between_is (x lo hi : Int) (w : World) (r : Bool) (hr : decide (lo ≤ x ∧ x ≤ hi) = r) : Calls Try.prog 39 #[.int .i64 x, .int .i64 lo, .int .i64 hi] w fun e w' => e = .returned (.bool r) ∧ w = w' := by
  by_cases h1 : lo ≤ x <;> by_cases h2 : x ≤ hi
  all_goals
    simp only [h1, h2, true_and, and_true, and_self, and_false, false_and, decide_true, decide_false] at hr
    subst hr
    go_enter Try.func39, Try.ntmps39
    go_wp2
    go_ret
    exact ⟨rfl, rfl⟩

set_option maxHeartbeats 400000 in
theorem conflict_is (a b : Op) (w : World) (r : Bool) (hr : conflictS a b = r) :
    Calls Try.prog 20 #[.agg #[.int .i64 a.tx, .int .i64 a.kind, .string a.key], .agg #[.int .i64 b.tx, .int .i64 b.kind, .string b.key]] w fun e w' => e = .returned (.bool r) ∧ Below w.heap.size w w' := by
  unfold conflictS Op.k at hr
  by_cases h1 : a.tx = b.tx
  · simp [h1] at hr
    subst hr
    go_enter Try.func20, Try.ntmps20
    go_wp2
    go_ret
    exact ⟨rfl, below2 _ _ _⟩
  by_cases h2 : a.key.toList = b.key.toList
  · by_cases h3 : a.kind = 2
    · simp [h1, h2, h3] at hr
      subst hr
      go_enter Try.func20, Try.ntmps20
      go_wp2
      go_ret
      exact ⟨rfl, below2 _ _ _⟩
    · by_cases h4 : b.kind = 2
      all_goals
        simp [h1, h2, h3, h4] at hr
        subst hr
        go_enter Try.func20, Try.ntmps20
        go_wp2
        go_ret
        exact ⟨rfl, below2 _ _ _⟩
  · simp only [beq_eq_false_iff_ne.2 h2, Bool.false_and, Bool.and_false] at hr
    subst hr
    go_enter Try.func20, Try.ntmps20
    go_wp2
    go_ret
    exact ⟨rfl, below2 _ _ _⟩

set_option maxHeartbeats 400000 in
theorem conflicts_is (a b : Op) (w : World) (r : Bool) (hr : conflictR a b = r) (ha1 : 1 ≤ a.kind) (ha2 : a.kind ≤ 2) (hb1 : 1 ≤ b.kind) (hb2 : b.kind ≤ 2) :
    Calls Try.prog 21 #[.agg #[.int .i64 a.tx, .int .i64 a.kind, .string a.key], .agg #[.int .i64 b.tx, .int .i64 b.kind, .string b.key]] w fun e w' => e = .returned (.bool r) ∧ Below w.heap.size w w' := by
  unfold conflictR Op.k at hr
  by_cases h2 : a.key.toList = b.key.toList
  · by_cases h1 : a.tx = b.tx
    · simp [h1, h2] at hr
      subst hr
      go_enter Try.func21, Try.ntmps21
      go_wp2
      go_ret
      exact ⟨rfl, below2 _ _ _⟩
    · by_cases h4 : 2 < a.kind + b.kind
      all_goals
        simp [h1, h2, h4] at hr
        subst hr
        go_enter Try.func21, Try.ntmps21
        go_wp2
        go_ret
        exact ⟨rfl, below2 _ _ _⟩
  · simp only [beq_eq_false_iff_ne.2 h2, Bool.false_and, Bool.and_false] at hr
    subst hr
    go_enter Try.func21, Try.ntmps21
    go_wp2
    go_ret
    exact ⟨rfl, below2 _ _ _⟩

/-- the errors of one operation -/
def opErr (o : Op) : Int := if ¬ (1 ≤ o.kind ∧ o.kind ≤ 2) then 3 else if ¬ (0 ≤ o.tx ∧ o.tx ≤ 19) then 1 else if 24 < o.key.size then 2 else 0
def firstErr : List Op → Int
  | [] => 0
  | o :: r => if opErr o = 0 then firstErr r else opErr o
def checkH (h : List Op) : Int := if 200 < h.length then 2 else firstErr h


/-- what a valid history is -/
def okOp (o : Op) : Prop := opErr o = 0

set_option maxHeartbeats 400000 in
theorem checkHistory_is (h : List Op) (v : Value) (B : Nat) (w : World) (hv : Rep.is w B h [v]) (hB : B ≤ w.heap.size) (r : Int) (hr : checkH h = r) :
    Calls Try.prog 12 #[v] w fun e w' => e = .returned (.int .i64 r) ∧ Below w.heap.size w w' := by
  obtain ⟨A, cap, hv0, hlen, hcap, h3, h4, h5⟩ := hv
  simp only [List.cons.injEq, and_true] at hv0
  subst hv0
  have H5 := Rp.hid h5; clear h5
  have h3' : h.length * 32 ≤ reach := h3
  unfold reach at h3'
  clear h3 h4 hcap
  unfold checkH at hr
  by_cases hbig : 200 < h.length
  · rw [if_pos hbig] at hr
    subst hr
    go_enter Try.func12, Try.ntmps12
    go_wp2
    go_ret
    exact ⟨rfl, Below.refl _ _⟩
  rw [if_neg hbig] at hr
  have HR := Rp.hid hr; clear hr
  go_enter Try.func12, Try.ntmps12
  go_wp2_with fail
  go_loopw [10] (fun i wr => ∃ (k : Nat), k ≤ h.length ∧ i = .int .i64 k ∧ Hid (firstErr (h.drop k) = r) ∧ Hid (Below w.heap.size w wr)) (fun i _ => h.length - (intOf i).toNat)
  case atStart => exact ⟨0, Nat.zero_le _, rfl, HR.out, Below.refl _ _⟩
  case round =>
    obtain ⟨k, hk, rfl, HE, HL⟩ := hrel
    by_cases hlt : k < h.length
    · obtain ⟨b, off, es, rfl, hb, hes, hc⟩ := H5.out k hlt
      obtain ⟨rfl, ht, hkd, hky⟩ := op_cells hes
      have c0 : wr.cell? ⟨b, off + k * 3, none⟩ = some (.int .i64 h[k].tx) := ((bcell HL.out).1 _ _ (by omega)).trans (hc 0 (by decide))
      have c1 : wr.cell? ⟨b, off + k * 3 + 1, none⟩ = some (.int .i64 h[k].kind) := ((bcell HL.out).1 _ _ (by omega)).trans (hc 1 (by decide))
      have c2 : wr.cell? ⟨b, off + k * 3 + 2, none⟩ = some (.string h[k].key) := ((bcell HL.out).1 _ _ (by omega)).trans (hc 2 (by decide))
      have HE' : Hid ((if opErr h[k] = 0 then firstErr (h.drop (k + 1)) else opErr h[k]) = r) := by
        have := HE.out
        rw [List.drop_eq_getElem_cons hlt] at this
        exact this
      clear hc hes HE
      generalize h[k] = o at *
      obtain ⟨ht1, ht2⟩ := ht
      obtain ⟨hk1, hk2⟩ := hkd
      have hbw : b < wr.heap.size := by have := HL.out.size; omega
      have HL2 : Hid (Below w.heap.size w (wr.alloc (.cells #[.int .i64 o.tx, .int .i64 o.kind, .string o.key] 32))) := HL.out.alloc HL.out.size _
      by_cases q1 : 1 ≤ o.kind ∧ o.kind ≤ 2
      · by_cases q2 : 0 ≤ o.tx ∧ o.tx ≤ 19
        · by_cases q3 : 24 < o.key.size
          · have E : Hid (r = 2) := by have := HE'.out; simp only [opErr, q1, q2, q3, not_true, if_false, if_true] at this; exact this.symm
            go_wp2_with fail
            refine (between_is _ _ _ _ true (by simpa using q1)).mono ?_
            rintro e w1 ⟨rfl, rfl⟩
            go_wp2_with fail
            refine (between_is _ _ _ _ true (by simpa using q2)).mono ?_
            rintro e w1 ⟨rfl, rfl⟩
            go_wp2_with fail
            go_ret
            exact ⟨by rw [E.out]; rfl, HL2.out⟩
          · have E : Hid (firstErr (h.drop (k + 1)) = r) := by have := HE'.out; simp only [opErr, q1, q2, q3, not_true, if_false, if_true] at this; exact this
            go_wp2_with fail
            refine (between_is _ _ _ _ true (by simpa using q1)).mono ?_
            rintro e w1 ⟨rfl, rfl⟩
            go_wp2_with fail
            refine (between_is _ _ _ _ true (by simpa using q2)).mono ?_
            rintro e w1 ⟨rfl, rfl⟩
            go_wp2_with fail
            go_roundw
            case rel => exact ⟨k + 1, by omega, by go_num, E, HL2⟩
            case measure => simp [intOf]; omega
        · have E : Hid (r = 1) := by have := HE'.out; simp only [opErr, q1, q2, not_true, if_false, if_true, not_false_eq_true] at this; exact this.symm
          go_wp2_with fail
          refine (between_is _ _ _ _ true (by simpa using q1)).mono ?_
          rintro e w1 ⟨rfl, rfl⟩
          go_wp2_with fail
          refine (between_is _ _ _ _ false (by simpa using q2)).mono ?_
          rintro e w1 ⟨rfl, rfl⟩
          go_wp2_with fail
          go_ret
          exact ⟨by rw [E.out]; rfl, HL2.out⟩
      · have E : Hid (r = 3) := by have := HE'.out; simp only [opErr, q1, if_false, if_true, not_false_eq_true] at this; exact this.symm
        go_wp2_with fail
        refine (between_is _ _ _ _ false (by simpa using q1)).mono ?_
        rintro e w1 ⟨rfl, rfl⟩
        go_wp2_with fail
        go_ret
        exact ⟨by rw [E.out]; rfl, HL2.out⟩
    · have E : Hid (r = 0) := by have := HE.out; rw [List.drop_of_length_le (by omega)] at this; exact this.symm
      go_wp2_with fail
      go_ret
      exact ⟨by rw [E.out]; rfl, HL.out⟩
end Go.Proofs.Ytabjbkdlacibjaa
