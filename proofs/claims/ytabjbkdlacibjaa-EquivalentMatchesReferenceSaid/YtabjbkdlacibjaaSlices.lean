/- Contracts of package slices' functions at the element types that the histories use. -/
import Derived.Test.YtabjbkdlacibjaaOps
import Derived.Deep.RegionLaw
namespace Go.Proofs.Ytabjbkdlacibjaa
open Go.RowKit Go.Rp

/-- the first index, or -1 -/
def idxFrom {α : Type} (p : α → Bool) : List α → Int → Int
  | [], _ => -1
  | x :: r, k => if p x = true then k else idxFrom p r (k + 1)
def idx {α : Type} (p : α → Bool) (l : List α) : Int := idxFrom p l 0
theorem idxFrom_zero {α : Type} (p : α → Bool) (l : List α) : idxFrom p (l.drop 0) ((0 : Nat) : Int) = idx p l := rfl
theorem idxFrom_any {α : Type} (p : α → Bool) : ∀ (l : List α) (k : Int), 0 ≤ k → (l.any p = decide (0 ≤ idxFrom p l k))
  | [], k, _ => by simp [idxFrom]
  | x :: r, k, hk => by
    have ih := idxFrom_any p r (k + 1) (by omega)
    cases hp : p x <;> simp [idxFrom, hp, ih, hk]
theorem idx_any {α : Type} (p : α → Bool) (l : List α) : l.any p = decide (0 ≤ idx p l) := idxFrom_any p l 0 (by omega)

def eqList {α : Type} (q : α → α → Bool) : List α → List α → Bool
  | [], [] => true
  | x :: xs, y :: ys => q x y && eqList q xs ys
  | _, _ => false
theorem eqList_len {α : Type} (q : α → α → Bool) : ∀ {xs ys : List α}, xs.length ≠ ys.length → eqList q xs ys = false
  | [], [], h => absurd rfl h
  | [], _ :: _, _ => rfl
  | _ :: _, [], _ => rfl
  | x :: xs, y :: ys, h => by simp only [eqList]; rw [eqList_len q (by simpa using h), Bool.and_false]

def opV (o : Op) : Value := .agg #[.int .i64 o.tx, .int .i64 o.kind, .string o.key]
def opEq (a b : Op) : Bool := a.tx == b.tx && (a.kind == b.kind && a.k == b.k)
def intEq (a b : Int) : Bool := a == b
theorem intEq_no {a b : Int} (h : (a != b) = true) : intEq a b = false := by simpa [intEq] using h
theorem intEq_yes {a b : Int} (h : (a != b) = false) : intEq a b = true := by simpa [intEq] using h

set_option maxRecDepth 20000 in
theorem neq27 (a1 b1 a2 b2 : Int) (s1 s2 : ByteArray) (w : World) :
    (binOp .neq 27 (.agg #[.int .i64 a1, .int .i64 b1, .string s1]) (.agg #[.int .i64 a2, .int .i64 b2, .string s2])).run Try.prog w = .ok (.bool (!(a1 == a2 && (b1 == b2 && s1.toList == s2.toList)))) w := by
  by_cases h1 : a1 = a2 <;> by_cases h2 : b1 = b2 <;> by_cases h3 : s1.toList = s2.toList <;> simp [go_sem, h1, h2, h3]
set_option maxRecDepth 20000 in
theorem neq32 (a1 b1 a2 b2 : Int) (s1 s2 : ByteArray) (w : World) :
    (binOp .neq 32 (.agg #[.int .i64 a1, .int .i64 b1, .string s1]) (.agg #[.int .i64 a2, .int .i64 b2, .string s2])).run Try.prog w = .ok (.bool (!(a1 == a2 && (b1 == b2 && s1.toList == s2.toList)))) w := by
  by_cases h1 : a1 = a2 <;> by_cases h2 : b1 = b2 <;> by_cases h3 : s1.toList = s2.toList <;> simp [go_sem, h1, h2, h3]

set_option maxRecDepth 20000 in
set_option maxHeartbeats 400000 in
theorem indexFunc92 (xs : List Op) (v : Value) (B : Nat) (w : World) (hv : Rep.is w B xs [v]) (hB : B ≤ w.heap.size) (g : FuncId) (caps : Array Value) (p : Op → Bool) (hg : Enters Try.prog g)
    (hf : ∀ x ∈ xs, ∀ w1, Below w.heap.size w w1 → Calls Try.prog g (#[opV x] ++ caps) w1 fun e w2 => e = .returned (.bool (p x)) ∧ Below w1.heap.size w1 w2) (r : Int) (hr : idx p xs = r) :
    Calls Try.prog 92 #[v, .func (.func g) #[] caps] w fun e w' => e = .returned (.int .i64 r) ∧ Below w.heap.size w w' := by
  obtain ⟨A, cap, hv0, hlenxs, hcap, h3, h4, h5⟩ := hv
  simp only [List.cons.injEq, and_true] at hv0
  subst hv0
  have H5 := Rp.hid h5; clear h5
  have h3xs : xs.length * 32 ≤ reach := h3
  unfold reach at h3xs
  clear h3 h4 hcap
  unfold Enters at hg
  have HF := Rp.hid hf; clear hf
  have HR := Rp.hid hr; clear hr
  go_enter Try.func92, Try.ntmps92
  go_wp2_with fail
  go_loopw [8] (fun i wr => ∃ (k : Nat), k ≤ xs.length ∧ i = .int .i64 k ∧ Hid (idxFrom p (xs.drop k) k = r) ∧ Hid (Below w.heap.size w wr)) (fun i _ => xs.length - (intOf i).toNat)
  case atStart => exact ⟨0, Nat.zero_le _, rfl, by rw [← HR.out]; exact idxFrom_zero _ _, Below.refl _ _⟩
  case round =>
    obtain ⟨k, hk, rfl, HE, HL⟩ := hrel
    by_cases hlt : k < xs.length
    · obtain ⟨b, off, es, rfl, hb, hes, hc⟩ := H5.out k hlt
      obtain ⟨o, ho⟩ : ∃ o, xs[k] = o := ⟨_, rfl⟩
      rw [ho] at hes
      obtain ⟨rfl, ht, hkd, hky⟩ := op_cells hes
      have c0 : wr.cell? ⟨b, off + k * 3, none⟩ = some (.int .i64 o.tx) := ((bcell HL.out).1 _ _ (by omega)).trans (hc 0 (by decide))
      have c1 : wr.cell? ⟨b, off + k * 3 + 1, none⟩ = some (.int .i64 o.kind) := ((bcell HL.out).1 _ _ (by omega)).trans (hc 1 (by decide))
      have c2 : wr.cell? ⟨b, off + k * 3 + 2, none⟩ = some (.string o.key) := ((bcell HL.out).1 _ _ (by omega)).trans (hc 2 (by decide))
      clear hc hes H5
      have hmem : o ∈ xs := ho ▸ List.getElem_mem hlt
      have HC := Rp.hid (HF.out _ hmem wr HL.out)
      have HE2 : Hid ((if p o = true then (k : Int) else idxFrom p (xs.drop (k + 1)) (k + 1)) = r) := by
        have := HE.out
        rw [List.drop_eq_getElem_cons hlt, ho] at this
        exact this
      clear hmem HE ho
      go_wp2_with fail
      refine HC.out.mono ?_
      rintro e w2 ⟨rfl, hb2⟩
      have HL2 := Rp.hid (HL.out.step hb2); clear hb2
      cases hp : p o with
      | true =>
        have E : Hid (r = k) := by have := HE2.out; rw [if_pos hp] at this; exact this.symm
        go_wp2_with fail
        go_ret
        exact ⟨by rw [E.out]; rfl, HL2.out⟩
      | false =>
        have E : Hid (idxFrom p (xs.drop (k + 1)) (k + 1) = r) := by have := HE2.out; rw [if_neg (by rw [hp]; decide)] at this; exact this
        go_wp2_with fail
        go_roundw
        case rel => exact ⟨k + 1, by omega, by go_num, E, HL2⟩
        case measure => simp [intOf]; omega
    · have E : Hid (r = -1) := by have := HE.out; rw [List.drop_of_length_le (by omega)] at this; exact this.symm
      go_wp2_with fail
      go_ret
      exact ⟨by rw [E.out]; rfl, HL.out⟩

set_option maxRecDepth 20000 in
set_option maxHeartbeats 400000 in
theorem indexFunc74 (xs : List Op) (v : Value) (B : Nat) (w : World) (hv : Rep.is w B xs [v]) (hB : B ≤ w.heap.size) (g : FuncId) (caps : Array Value) (p : Op → Bool) (hg : Enters Try.prog g)
    (hf : ∀ x ∈ xs, ∀ w1, Below w.heap.size w w1 → Calls Try.prog g (#[opV x] ++ caps) w1 fun e w2 => e = .returned (.bool (p x)) ∧ Below w1.heap.size w1 w2) (r : Int) (hr : idx p xs = r) :
    Calls Try.prog 74 #[v, .func (.func g) #[] caps] w fun e w' => e = .returned (.int .i64 r) ∧ Below w.heap.size w w' := by
  obtain ⟨A, cap, hv0, hlenxs, hcap, h3, h4, h5⟩ := hv
  simp only [List.cons.injEq, and_true] at hv0
  subst hv0
  have H5 := Rp.hid h5; clear h5
  have h3xs : xs.length * 32 ≤ reach := h3
  unfold reach at h3xs
  clear h3 h4 hcap
  unfold Enters at hg
  have HF := Rp.hid hf; clear hf
  have HR := Rp.hid hr; clear hr
  go_enter Try.func74, Try.ntmps74
  go_wp2_with fail
  go_loopw [8] (fun i wr => ∃ (k : Nat), k ≤ xs.length ∧ i = .int .i64 k ∧ Hid (idxFrom p (xs.drop k) k = r) ∧ Hid (Below w.heap.size w wr)) (fun i _ => xs.length - (intOf i).toNat)
  case atStart => exact ⟨0, Nat.zero_le _, rfl, by rw [← HR.out]; exact idxFrom_zero _ _, Below.refl _ _⟩
  case round =>
    obtain ⟨k, hk, rfl, HE, HL⟩ := hrel
    by_cases hlt : k < xs.length
    · obtain ⟨b, off, es, rfl, hb, hes, hc⟩ := H5.out k hlt
      obtain ⟨o, ho⟩ : ∃ o, xs[k] = o := ⟨_, rfl⟩
      rw [ho] at hes
      obtain ⟨rfl, ht, hkd, hky⟩ := op_cells hes
      have c0 : wr.cell? ⟨b, off + k * 3, none⟩ = some (.int .i64 o.tx) := ((bcell HL.out).1 _ _ (by omega)).trans (hc 0 (by decide))
      have c1 : wr.cell? ⟨b, off + k * 3 + 1, none⟩ = some (.int .i64 o.kind) := ((bcell HL.out).1 _ _ (by omega)).trans (hc 1 (by decide))
      have c2 : wr.cell? ⟨b, off + k * 3 + 2, none⟩ = some (.string o.key) := ((bcell HL.out).1 _ _ (by omega)).trans (hc 2 (by decide))
      clear hc hes H5
      have hmem : o ∈ xs := ho ▸ List.getElem_mem hlt
      have HC := Rp.hid (HF.out _ hmem wr HL.out)
      have HE2 : Hid ((if p o = true then (k : Int) else idxFrom p (xs.drop (k + 1)) (k + 1)) = r) := by
        have := HE.out
        rw [List.drop_eq_getElem_cons hlt, ho] at this
        exact this
      clear hmem HE ho
      go_wp2_with fail
      refine HC.out.mono ?_
      rintro e w2 ⟨rfl, hb2⟩
      have HL2 := Rp.hid (HL.out.step hb2); clear hb2
      cases hp : p o with
      | true =>
        have E : Hid (r = k) := by have := HE2.out; rw [if_pos hp] at this; exact this.symm
        go_wp2_with fail
        go_ret
        exact ⟨by rw [E.out]; rfl, HL2.out⟩
      | false =>
        have E : Hid (idxFrom p (xs.drop (k + 1)) (k + 1) = r) := by have := HE2.out; rw [if_neg (by rw [hp]; decide)] at this; exact this
        go_wp2_with fail
        go_roundw
        case rel => exact ⟨k + 1, by omega, by go_num, E, HL2⟩
        case measure => simp [intOf]; omega
    · have E : Hid (r = -1) := by have := HE.out; rw [List.drop_of_length_le (by omega)] at this; exact this.symm
      go_wp2_with fail
      go_ret
      exact ⟨by rw [E.out]; rfl, HL.out⟩

set_option maxRecDepth 20000 in
set_option maxHeartbeats 400000 in
theorem indexFunc58 (xs : List Int) (v : Value) (B : Nat) (w : World) (hv : Rep.is w B xs [v]) (hB : B ≤ w.heap.size) (g : FuncId) (caps : Array Value) (p : Int → Bool) (hg : Enters Try.prog g)
    (hf : ∀ x ∈ xs, ∀ w1, Below w.heap.size w w1 → Calls Try.prog g (#[Value.int .i64 x] ++ caps) w1 fun e w2 => e = .returned (.bool (p x)) ∧ Below w1.heap.size w1 w2) (r : Int) (hr : idx p xs = r) :
    Calls Try.prog 58 #[v, .func (.func g) #[] caps] w fun e w' => e = .returned (.int .i64 r) ∧ Below w.heap.size w w' := by
  obtain ⟨A, cap, hv0, hlenxs, hcap, h3, h4, h5⟩ := hv
  simp only [List.cons.injEq, and_true] at hv0
  subst hv0
  have H5 := Rp.hid h5; clear h5
  have h3xs : xs.length * 8 ≤ reach := h3
  unfold reach at h3xs
  clear h3 h4 hcap
  unfold Enters at hg
  have HF := Rp.hid hf; clear hf
  have HR := Rp.hid hr; clear hr
  go_enter Try.func58, Try.ntmps58
  go_wp2_with fail
  go_loopw [8] (fun i wr => ∃ (k : Nat), k ≤ xs.length ∧ i = .int .i64 k ∧ Hid (idxFrom p (xs.drop k) k = r) ∧ Hid (Below w.heap.size w wr)) (fun i _ => xs.length - (intOf i).toNat)
  case atStart => exact ⟨0, Nat.zero_le _, rfl, by rw [← HR.out]; exact idxFrom_zero _ _, Below.refl _ _⟩
  case round =>
    obtain ⟨k, hk, rfl, HE, HL⟩ := hrel
    by_cases hlt : k < xs.length
    · obtain ⟨b, off, es, rfl, hb, hes, hc⟩ := H5.out k hlt
      obtain ⟨o, ho⟩ : ∃ o, xs[k] = o := ⟨_, rfl⟩
      rw [ho] at hes
      have hes2 := hes
      obtain ⟨rfl, ht⟩ := hes2
      have c0 : wr.cell? ⟨b, off + k, none⟩ = some (.int .i64 o) := ((bcell HL.out).1 _ _ (by omega)).trans (by have h0 := hc 0 (by decide); simp only [show Rep.n Int = 1 from rfl, Nat.mul_one, Nat.add_zero] at h0; rw [h0]; rfl)
      clear hc hes H5
      have hmem : o ∈ xs := ho ▸ List.getElem_mem hlt
      have HC := Rp.hid (HF.out _ hmem wr HL.out)
      have HE2 : Hid ((if p o = true then (k : Int) else idxFrom p (xs.drop (k + 1)) (k + 1)) = r) := by
        have := HE.out
        rw [List.drop_eq_getElem_cons hlt, ho] at this
        exact this
      clear hmem HE ho
      go_wp2_with fail
      refine HC.out.mono ?_
      rintro e w2 ⟨rfl, hb2⟩
      have HL2 := Rp.hid (HL.out.step hb2); clear hb2
      cases hp : p o with
      | true =>
        have E : Hid (r = k) := by have := HE2.out; rw [if_pos hp] at this; exact this.symm
        go_wp2_with fail
        go_ret
        exact ⟨by rw [E.out]; rfl, HL2.out⟩
      | false =>
        have E : Hid (idxFrom p (xs.drop (k + 1)) (k + 1) = r) := by have := HE2.out; rw [if_neg (by rw [hp]; decide)] at this; exact this
        go_wp2_with fail
        go_roundw
        case rel => exact ⟨k + 1, by omega, by go_num, E, HL2⟩
        case measure => simp [intOf]; omega
    · have E : Hid (r = -1) := by have := HE.out; rw [List.drop_of_length_le (by omega)] at this; exact this.symm
      go_wp2_with fail
      go_ret
      exact ⟨by rw [E.out]; rfl, HL.out⟩

set_option maxRecDepth 20000 in
set_option maxHeartbeats 400000 in
theorem indexFunc96 (xs : List ByteArray) (v : Value) (B : Nat) (w : World) (hv : Rep.is w B xs [v]) (hB : B ≤ w.heap.size) (g : FuncId) (caps : Array Value) (p : ByteArray → Bool) (hg : Enters Try.prog g)
    (hf : ∀ x ∈ xs, ∀ w1, Below w.heap.size w w1 → Calls Try.prog g (#[Value.string x] ++ caps) w1 fun e w2 => e = .returned (.bool (p x)) ∧ Below w1.heap.size w1 w2) (r : Int) (hr : idx p xs = r) :
    Calls Try.prog 96 #[v, .func (.func g) #[] caps] w fun e w' => e = .returned (.int .i64 r) ∧ Below w.heap.size w w' := by
  obtain ⟨A, cap, hv0, hlenxs, hcap, h3, h4, h5⟩ := hv
  simp only [List.cons.injEq, and_true] at hv0
  subst hv0
  have H5 := Rp.hid h5; clear h5
  have h3xs : xs.length * 16 ≤ reach := h3
  unfold reach at h3xs
  clear h3 h4 hcap
  unfold Enters at hg
  have HF := Rp.hid hf; clear hf
  have HR := Rp.hid hr; clear hr
  go_enter Try.func96, Try.ntmps96
  go_wp2_with fail
  go_loopw [8] (fun i wr => ∃ (k : Nat), k ≤ xs.length ∧ i = .int .i64 k ∧ Hid (idxFrom p (xs.drop k) k = r) ∧ Hid (Below w.heap.size w wr)) (fun i _ => xs.length - (intOf i).toNat)
  case atStart => exact ⟨0, Nat.zero_le _, rfl, by rw [← HR.out]; exact idxFrom_zero _ _, Below.refl _ _⟩
  case round =>
    obtain ⟨k, hk, rfl, HE, HL⟩ := hrel
    by_cases hlt : k < xs.length
    · obtain ⟨b, off, es, rfl, hb, hes, hc⟩ := H5.out k hlt
      obtain ⟨o, ho⟩ : ∃ o, xs[k] = o := ⟨_, rfl⟩
      rw [ho] at hes
      have hes2 := hes
      obtain ⟨rfl, ht⟩ := hes2
      have c0 : wr.cell? ⟨b, off + k, none⟩ = some (.string o) := ((bcell HL.out).1 _ _ (by omega)).trans (by have h0 := hc 0 (by decide); simp only [show Rep.n ByteArray = 1 from rfl, Nat.mul_one, Nat.add_zero] at h0; rw [h0]; rfl)
      clear hc hes H5
      have hmem : o ∈ xs := ho ▸ List.getElem_mem hlt
      have HC := Rp.hid (HF.out _ hmem wr HL.out)
      have HE2 : Hid ((if p o = true then (k : Int) else idxFrom p (xs.drop (k + 1)) (k + 1)) = r) := by
        have := HE.out
        rw [List.drop_eq_getElem_cons hlt, ho] at this
        exact this
      clear hmem HE ho
      go_wp2_with fail
      refine HC.out.mono ?_
      rintro e w2 ⟨rfl, hb2⟩
      have HL2 := Rp.hid (HL.out.step hb2); clear hb2
      cases hp : p o with
      | true =>
        have E : Hid (r = k) := by have := HE2.out; rw [if_pos hp] at this; exact this.symm
        go_wp2_with fail
        go_ret
        exact ⟨by rw [E.out]; rfl, HL2.out⟩
      | false =>
        have E : Hid (idxFrom p (xs.drop (k + 1)) (k + 1) = r) := by have := HE2.out; rw [if_neg (by rw [hp]; decide)] at this; exact this
        go_wp2_with fail
        go_roundw
        case rel => exact ⟨k + 1, by omega, by go_num, E, HL2⟩
        case measure => simp [intOf]; omega
    · have E : Hid (r = -1) := by have := HE.out; rw [List.drop_of_length_le (by omega)] at this; exact this.symm
      go_wp2_with fail
      go_ret
      exact ⟨by rw [E.out]; rfl, HL.out⟩

theorem containsFunc81 (xs : List Op) (v : Value) (B : Nat) (w : World) (hv : Rep.is w B xs [v]) (hB : B ≤ w.heap.size) (g : FuncId) (caps : Array Value) (p : Op → Bool) (hg : Enters Try.prog g)
    (hf : ∀ x ∈ xs, ∀ w1, Below w.heap.size w w1 → Calls Try.prog g (#[opV x] ++ caps) w1 fun e w2 => e = .returned (.bool (p x)) ∧ Below w1.heap.size w1 w2) (r : Bool) (hr : xs.any p = r) :
    Calls Try.prog 81 #[v, .func (.func g) #[] caps] w fun e w' => e = .returned (.bool r) ∧ Below w.heap.size w w' := by
  have HV := Rp.hid hv; clear hv
  have HG := Rp.hid hg; clear hg
  have HF := Rp.hid hf; clear hf
  have HI := Rp.hid (idx_any p xs)
  go_enter Try.func81, Try.ntmps81
  go_wp2_with fail
  refine (indexFunc92 xs v B w HV.out hB g caps p HG.out HF.out _ rfl).mono ?_
  rintro e w2 ⟨rfl, hb2⟩
  have HL := Rp.hid hb2; clear hb2
  rw [HI.out] at hr
  have HR := Rp.hid hr; clear hr
  go_wp2_with fail
  go_ret
  exact ⟨retB HR.out, HL.out⟩

theorem containsFunc48 (xs : List Op) (v : Value) (B : Nat) (w : World) (hv : Rep.is w B xs [v]) (hB : B ≤ w.heap.size) (g : FuncId) (caps : Array Value) (p : Op → Bool) (hg : Enters Try.prog g)
    (hf : ∀ x ∈ xs, ∀ w1, Below w.heap.size w w1 → Calls Try.prog g (#[opV x] ++ caps) w1 fun e w2 => e = .returned (.bool (p x)) ∧ Below w1.heap.size w1 w2) (r : Bool) (hr : xs.any p = r) :
    Calls Try.prog 48 #[v, .func (.func g) #[] caps] w fun e w' => e = .returned (.bool r) ∧ Below w.heap.size w w' := by
  have HV := Rp.hid hv; clear hv
  have HG := Rp.hid hg; clear hg
  have HF := Rp.hid hf; clear hf
  have HI := Rp.hid (idx_any p xs)
  go_enter Try.func48, Try.ntmps48
  go_wp2_with fail
  refine (indexFunc74 xs v B w HV.out hB g caps p HG.out HF.out _ rfl).mono ?_
  rintro e w2 ⟨rfl, hb2⟩
  have HL := Rp.hid hb2; clear hb2
  rw [HI.out] at hr
  have HR := Rp.hid hr; clear hr
  go_wp2_with fail
  go_ret
  exact ⟨retB HR.out, HL.out⟩

theorem containsFunc60 (xs : List Int) (v : Value) (B : Nat) (w : World) (hv : Rep.is w B xs [v]) (hB : B ≤ w.heap.size) (g : FuncId) (caps : Array Value) (p : Int → Bool) (hg : Enters Try.prog g)
    (hf : ∀ x ∈ xs, ∀ w1, Below w.heap.size w w1 → Calls Try.prog g (#[Value.int .i64 x] ++ caps) w1 fun e w2 => e = .returned (.bool (p x)) ∧ Below w1.heap.size w1 w2) (r : Bool) (hr : xs.any p = r) :
    Calls Try.prog 60 #[v, .func (.func g) #[] caps] w fun e w' => e = .returned (.bool r) ∧ Below w.heap.size w w' := by
  have HV := Rp.hid hv; clear hv
  have HG := Rp.hid hg; clear hg
  have HF := Rp.hid hf; clear hf
  have HI := Rp.hid (idx_any p xs)
  go_enter Try.func60, Try.ntmps60
  go_wp2_with fail
  refine (indexFunc58 xs v B w HV.out hB g caps p HG.out HF.out _ rfl).mono ?_
  rintro e w2 ⟨rfl, hb2⟩
  have HL := Rp.hid hb2; clear hb2
  rw [HI.out] at hr
  have HR := Rp.hid hr; clear hr
  go_wp2_with fail
  go_ret
  exact ⟨retB HR.out, HL.out⟩

theorem containsFunc93 (xs : List ByteArray) (v : Value) (B : Nat) (w : World) (hv : Rep.is w B xs [v]) (hB : B ≤ w.heap.size) (g : FuncId) (caps : Array Value) (p : ByteArray → Bool) (hg : Enters Try.prog g)
    (hf : ∀ x ∈ xs, ∀ w1, Below w.heap.size w w1 → Calls Try.prog g (#[Value.string x] ++ caps) w1 fun e w2 => e = .returned (.bool (p x)) ∧ Below w1.heap.size w1 w2) (r : Bool) (hr : xs.any p = r) :
    Calls Try.prog 93 #[v, .func (.func g) #[] caps] w fun e w' => e = .returned (.bool r) ∧ Below w.heap.size w w' := by
  have HV := Rp.hid hv; clear hv
  have HG := Rp.hid hg; clear hg
  have HF := Rp.hid hf; clear hf
  have HI := Rp.hid (idx_any p xs)
  go_enter Try.func93, Try.ntmps93
  go_wp2_with fail
  refine (indexFunc96 xs v B w HV.out hB g caps p HG.out HF.out _ rfl).mono ?_
  rintro e w2 ⟨rfl, hb2⟩
  have HL := Rp.hid hb2; clear hb2
  rw [HI.out] at hr
  have HR := Rp.hid hr; clear hr
  go_wp2_with fail
  go_ret
  exact ⟨retB HR.out, HL.out⟩

set_option maxRecDepth 20000 in
set_option maxHeartbeats 400000 in
theorem equal27 (xs ys : List Op) (v u : Value) (B : Nat) (w : World) (hv : Rep.is w B xs [v]) (hu : Rep.is w B ys [u]) (hB : B ≤ w.heap.size) (r : Bool) (hr : eqList opEq xs ys = r) :
    Calls Try.prog 27 #[v, u] w fun e w' => e = .returned (.bool r) ∧ Below w.heap.size w w' := by
  obtain ⟨A, cap, hv0, hlenxs, hcap, h3, h4, h5⟩ := hv
  simp only [List.cons.injEq, and_true] at hv0
  subst hv0
  have H5 := Rp.hid h5; clear h5
  have h3xs : xs.length * 32 ≤ reach := h3
  unfold reach at h3xs
  clear h3 h4 hcap
  obtain ⟨A2, cap2, hv0, hlenys, hcap, h3, h4, h5⟩ := hu
  simp only [List.cons.injEq, and_true] at hv0
  subst hv0
  have K5 := Rp.hid h5; clear h5
  have h3ys : ys.length * 32 ≤ reach := h3
  unfold reach at h3ys
  clear h3 h4 hcap
  by_cases hl : xs.length = ys.length
  case neg =>
    have hr2 : r = false := by rw [← hr]; exact eqList_len _ hl
    have hl2 : (xs.length : Int) ≠ ys.length := by omega
    subst hr2
    clear hr hl
    go_enter Try.func27, Try.ntmps27
    go_wp2_with fail
    go_ret
    exact ⟨rfl, Below.refl _ _⟩
  have HR := Rp.hid hr; clear hr
  have HLen := Rp.hid hl
  have hl1 : xs.length ≤ ys.length := by omega
  have hl2 : ys.length ≤ xs.length := by omega
  clear hl
  have hneq := @neq27
  have hgt : Try.prog.eqGuardType Try.prog.depth 27 = false := by kernel_rfl
  go_enter Try.func27, Try.ntmps27
  go_wp2_with fail
  go_loopw [13] (fun i wr => ∃ (k : Nat), k ≤ xs.length ∧ i = .int .i64 k ∧ Hid (eqList opEq (xs.drop k) (ys.drop k) = r) ∧ Hid (Below w.heap.size w wr)) (fun i _ => xs.length - (intOf i).toNat)
  case atStart => exact ⟨0, Nat.zero_le _, rfl, HR, Below.refl _ _⟩
  case round =>
    obtain ⟨k, hk, rfl, HE, HL⟩ := hrel
    by_cases hlt : k < xs.length
    · have hlt2 : k < ys.length := by omega
      obtain ⟨b, off, es, rfl, hb, hes, hc⟩ := H5.out k hlt
      obtain ⟨o, ho⟩ : ∃ o, xs[k] = o := ⟨_, rfl⟩
      rw [ho] at hes
      obtain ⟨rfl, ht, hkd, hky⟩ := op_cells hes
      have c0 : wr.cell? ⟨b, off + k * 3, none⟩ = some (.int .i64 o.tx) := ((bcell HL.out).1 _ _ (by omega)).trans (hc 0 (by decide))
      have c1 : wr.cell? ⟨b, off + k * 3 + 1, none⟩ = some (.int .i64 o.kind) := ((bcell HL.out).1 _ _ (by omega)).trans (hc 1 (by decide))
      have c2 : wr.cell? ⟨b, off + k * 3 + 2, none⟩ = some (.string o.key) := ((bcell HL.out).1 _ _ (by omega)).trans (hc 2 (by decide))
      clear hc hes H5 ht hkd hky
      obtain ⟨b2, off2, es, rfl, hb2, hes, hc⟩ := K5.out k hlt2
      obtain ⟨o2, ho2⟩ : ∃ o2, ys[k] = o2 := ⟨_, rfl⟩
      rw [ho2] at hes
      obtain ⟨rfl, ht, hkd, hky⟩ := op_cells hes
      have d0 : wr.cell? ⟨b2, off2 + k * 3, none⟩ = some (.int .i64 o2.tx) := ((bcell HL.out).1 _ _ (by omega)).trans (hc 0 (by decide))
      have d1 : wr.cell? ⟨b2, off2 + k * 3 + 1, none⟩ = some (.int .i64 o2.kind) := ((bcell HL.out).1 _ _ (by omega)).trans (hc 1 (by decide))
      have d2 : wr.cell? ⟨b2, off2 + k * 3 + 2, none⟩ = some (.string o2.key) := ((bcell HL.out).1 _ _ (by omega)).trans (hc 2 (by decide))
      clear hc hes K5 ht hkd hky
      have HE2 : Hid ((opEq o o2 && eqList opEq (xs.drop (k + 1)) (ys.drop (k + 1))) = r) := by
        have := HE.out
        rw [List.drop_eq_getElem_cons hlt, List.drop_eq_getElem_cons hlt2, ho, ho2] at this
        exact this
      clear HE ho ho2
      cases hq : opEq o o2 with
      | false =>
        have hnq : (!o.tx == o2.tx || (!o.kind == o2.kind || !o.key.toList == o2.key.toList)) = true := by simpa [opEq, Op.k] using congrArg (! ·) hq
        have E : Hid (r = false) := by have := HE2.out; rw [hq, Bool.false_and] at this; exact this.symm
        clear hq
        go_wp2_with fail
        go_quiet (fail)
        go_wp2_with fail
        go_ret
        exact ⟨by rw [E.out]; rfl, (HL.out.drewN _)⟩
      | true =>
        have hnq : (!o.tx == o2.tx || (!o.kind == o2.kind || !o.key.toList == o2.key.toList)) = false := by simpa [opEq, Op.k] using congrArg (! ·) hq
        have E : Hid (eqList opEq (xs.drop (k + 1)) (ys.drop (k + 1)) = r) := by have := HE2.out; rw [hq, Bool.true_and] at this; exact this
        clear hq
        go_wp2_with fail
        go_quiet (fail)
        go_wp2_with fail
        go_roundw
        case rel => exact ⟨k + 1, by omega, by go_num, E, HL.out.drewN _⟩
        case measure => simp [intOf]; omega
    · have E : Hid (r = true) := by have := HE.out; rw [List.drop_of_length_le (by omega), List.drop_of_length_le (by omega)] at this; exact this.symm
      go_wp2_with fail
      go_ret
      exact ⟨by rw [E.out]; rfl, HL.out⟩

set_option maxRecDepth 20000 in
set_option maxHeartbeats 400000 in
theorem equal13 (xs ys : List Op) (v u : Value) (B : Nat) (w : World) (hv : Rep.is w B xs [v]) (hu : Rep.is w B ys [u]) (hB : B ≤ w.heap.size) (r : Bool) (hr : eqList opEq xs ys = r) :
    Calls Try.prog 13 #[v, u] w fun e w' => e = .returned (.bool r) ∧ Below w.heap.size w w' := by
  obtain ⟨A, cap, hv0, hlenxs, hcap, h3, h4, h5⟩ := hv
  simp only [List.cons.injEq, and_true] at hv0
  subst hv0
  have H5 := Rp.hid h5; clear h5
  have h3xs : xs.length * 32 ≤ reach := h3
  unfold reach at h3xs
  clear h3 h4 hcap
  obtain ⟨A2, cap2, hv0, hlenys, hcap, h3, h4, h5⟩ := hu
  simp only [List.cons.injEq, and_true] at hv0
  subst hv0
  have K5 := Rp.hid h5; clear h5
  have h3ys : ys.length * 32 ≤ reach := h3
  unfold reach at h3ys
  clear h3 h4 hcap
  by_cases hl : xs.length = ys.length
  case neg =>
    have hr2 : r = false := by rw [← hr]; exact eqList_len _ hl
    have hl2 : (xs.length : Int) ≠ ys.length := by omega
    subst hr2
    clear hr hl
    go_enter Try.func13, Try.ntmps13
    go_wp2_with fail
    go_ret
    exact ⟨rfl, Below.refl _ _⟩
  have HR := Rp.hid hr; clear hr
  have HLen := Rp.hid hl
  have hl1 : xs.length ≤ ys.length := by omega
  have hl2 : ys.length ≤ xs.length := by omega
  clear hl
  have hneq := @neq32
  have hgt : Try.prog.eqGuardType Try.prog.depth 32 = false := by kernel_rfl
  go_enter Try.func13, Try.ntmps13
  go_wp2_with fail
  go_loopw [13] (fun i wr => ∃ (k : Nat), k ≤ xs.length ∧ i = .int .i64 k ∧ Hid (eqList opEq (xs.drop k) (ys.drop k) = r) ∧ Hid (Below w.heap.size w wr)) (fun i _ => xs.length - (intOf i).toNat)
  case atStart => exact ⟨0, Nat.zero_le _, rfl, HR, Below.refl _ _⟩
  case round =>
    obtain ⟨k, hk, rfl, HE, HL⟩ := hrel
    by_cases hlt : k < xs.length
    · have hlt2 : k < ys.length := by omega
      obtain ⟨b, off, es, rfl, hb, hes, hc⟩ := H5.out k hlt
      obtain ⟨o, ho⟩ : ∃ o, xs[k] = o := ⟨_, rfl⟩
      rw [ho] at hes
      obtain ⟨rfl, ht, hkd, hky⟩ := op_cells hes
      have c0 : wr.cell? ⟨b, off + k * 3, none⟩ = some (.int .i64 o.tx) := ((bcell HL.out).1 _ _ (by omega)).trans (hc 0 (by decide))
      have c1 : wr.cell? ⟨b, off + k * 3 + 1, none⟩ = some (.int .i64 o.kind) := ((bcell HL.out).1 _ _ (by omega)).trans (hc 1 (by decide))
      have c2 : wr.cell? ⟨b, off + k * 3 + 2, none⟩ = some (.string o.key) := ((bcell HL.out).1 _ _ (by omega)).trans (hc 2 (by decide))
      clear hc hes H5 ht hkd hky
      obtain ⟨b2, off2, es, rfl, hb2, hes, hc⟩ := K5.out k hlt2
      obtain ⟨o2, ho2⟩ : ∃ o2, ys[k] = o2 := ⟨_, rfl⟩
      rw [ho2] at hes
      obtain ⟨rfl, ht, hkd, hky⟩ := op_cells hes
      have d0 : wr.cell? ⟨b2, off2 + k * 3, none⟩ = some (.int .i64 o2.tx) := ((bcell HL.out).1 _ _ (by omega)).trans (hc 0 (by decide))
      have d1 : wr.cell? ⟨b2, off2 + k * 3 + 1, none⟩ = some (.int .i64 o2.kind) := ((bcell HL.out).1 _ _ (by omega)).trans (hc 1 (by decide))
      have d2 : wr.cell? ⟨b2, off2 + k * 3 + 2, none⟩ = some (.string o2.key) := ((bcell HL.out).1 _ _ (by omega)).trans (hc 2 (by decide))
      clear hc hes K5 ht hkd hky
      have HE2 : Hid ((opEq o o2 && eqList opEq (xs.drop (k + 1)) (ys.drop (k + 1))) = r) := by
        have := HE.out
        rw [List.drop_eq_getElem_cons hlt, List.drop_eq_getElem_cons hlt2, ho, ho2] at this
        exact this
      clear HE ho ho2
      cases hq : opEq o o2 with
      | false =>
        have hnq : (!o.tx == o2.tx || (!o.kind == o2.kind || !o.key.toList == o2.key.toList)) = true := by simpa [opEq, Op.k] using congrArg (! ·) hq
        have E : Hid (r = false) := by have := HE2.out; rw [hq, Bool.false_and] at this; exact this.symm
        clear hq
        go_wp2_with fail
        go_quiet (fail)
        go_wp2_with fail
        go_ret
        exact ⟨by rw [E.out]; rfl, (HL.out.drewN _)⟩
      | true =>
        have hnq : (!o.tx == o2.tx || (!o.kind == o2.kind || !o.key.toList == o2.key.toList)) = false := by simpa [opEq, Op.k] using congrArg (! ·) hq
        have E : Hid (eqList opEq (xs.drop (k + 1)) (ys.drop (k + 1)) = r) := by have := HE2.out; rw [hq, Bool.true_and] at this; exact this
        clear hq
        go_wp2_with fail
        go_quiet (fail)
        go_wp2_with fail
        go_roundw
        case rel => exact ⟨k + 1, by omega, by go_num, E, HL.out.drewN _⟩
        case measure => simp [intOf]; omega
    · have E : Hid (r = true) := by have := HE.out; rw [List.drop_of_length_le (by omega), List.drop_of_length_le (by omega)] at this; exact this.symm
      go_wp2_with fail
      go_ret
      exact ⟨by rw [E.out]; rfl, HL.out⟩

set_option maxRecDepth 20000 in
set_option maxHeartbeats 400000 in
theorem equal22 (xs ys : List Int) (v u : Value) (B : Nat) (w : World) (hv : Rep.is w B xs [v]) (hu : Rep.is w B ys [u]) (hB : B ≤ w.heap.size) (r : Bool) (hr : eqList intEq xs ys = r) :
    Calls Try.prog 22 #[v, u] w fun e w' => e = .returned (.bool r) ∧ Below w.heap.size w w' := by
  obtain ⟨A, cap, hv0, hlenxs, hcap, h3, h4, h5⟩ := hv
  simp only [List.cons.injEq, and_true] at hv0
  subst hv0
  have H5 := Rp.hid h5; clear h5
  have h3xs : xs.length * 8 ≤ reach := h3
  unfold reach at h3xs
  clear h3 h4 hcap
  obtain ⟨A2, cap2, hv0, hlenys, hcap, h3, h4, h5⟩ := hu
  simp only [List.cons.injEq, and_true] at hv0
  subst hv0
  have K5 := Rp.hid h5; clear h5
  have h3ys : ys.length * 8 ≤ reach := h3
  unfold reach at h3ys
  clear h3 h4 hcap
  by_cases hl : xs.length = ys.length
  case neg =>
    have hr2 : r = false := by rw [← hr]; exact eqList_len _ hl
    have hl2 : (xs.length : Int) ≠ ys.length := by omega
    subst hr2
    clear hr hl
    go_enter Try.func22, Try.ntmps22
    go_wp2_with fail
    go_ret
    exact ⟨rfl, Below.refl _ _⟩
  have HR := Rp.hid hr; clear hr
  have HLen := Rp.hid hl
  have hl1 : xs.length ≤ ys.length := by omega
  have hl2 : ys.length ≤ xs.length := by omega
  clear hl
  go_enter Try.func22, Try.ntmps22
  go_wp2_with fail
  go_loopw [13] (fun i wr => ∃ (k : Nat), k ≤ xs.length ∧ i = .int .i64 k ∧ Hid (eqList intEq (xs.drop k) (ys.drop k) = r) ∧ Hid (Below w.heap.size w wr)) (fun i _ => xs.length - (intOf i).toNat)
  case atStart => exact ⟨0, Nat.zero_le _, rfl, HR, Below.refl _ _⟩
  case round =>
    obtain ⟨k, hk, rfl, HE, HL⟩ := hrel
    by_cases hlt : k < xs.length
    · have hlt2 : k < ys.length := by omega
      obtain ⟨b, off, es, rfl, hb, hes, hc⟩ := H5.out k hlt
      obtain ⟨o, ho⟩ : ∃ o, xs[k] = o := ⟨_, rfl⟩
      rw [ho] at hes
      have hes2 := hes
      obtain ⟨rfl, ht⟩ := hes2
      have c0 : wr.cell? ⟨b, off + k, none⟩ = some (.int .i64 o) := ((bcell HL.out).1 _ _ (by omega)).trans (by have h0 := hc 0 (by decide); simp only [show Rep.n Int = 1 from rfl, Nat.mul_one, Nat.add_zero] at h0; rw [h0]; rfl)
      clear hc hes H5 ht
      obtain ⟨b2, off2, es, rfl, hb2, hes, hc⟩ := K5.out k hlt2
      obtain ⟨o2, ho2⟩ : ∃ o2, ys[k] = o2 := ⟨_, rfl⟩
      rw [ho2] at hes
      have hes2 := hes
      obtain ⟨rfl, ht⟩ := hes2
      have d0 : wr.cell? ⟨b2, off2 + k, none⟩ = some (.int .i64 o2) := ((bcell HL.out).1 _ _ (by omega)).trans (by have h0 := hc 0 (by decide); simp only [show Rep.n Int = 1 from rfl, Nat.mul_one, Nat.add_zero] at h0; rw [h0]; rfl)
      clear hc hes K5 ht
      have HE2 : Hid ((intEq o o2 && eqList intEq (xs.drop (k + 1)) (ys.drop (k + 1))) = r) := by
        have := HE.out
        rw [List.drop_eq_getElem_cons hlt, List.drop_eq_getElem_cons hlt2, ho, ho2] at this
        exact this
      clear HE ho ho2
      cases hq : intEq o o2 with
      | false =>
        have hnq : (o != o2) = true := by simpa [intEq, bne] using congrArg (! ·) hq
        have E : Hid (r = false) := by have := HE2.out; rw [hq, Bool.false_and] at this; exact this.symm
        clear hq
        go_wp2_with fail
        go_quiet (fail)
        go_wp2_with fail
        go_ret
        exact ⟨by rw [E.out]; rfl, (HL.out.drewN _)⟩
      | true =>
        have hnq : (o != o2) = false := by simpa [intEq, bne] using congrArg (! ·) hq
        have E : Hid (eqList intEq (xs.drop (k + 1)) (ys.drop (k + 1)) = r) := by have := HE2.out; rw [hq, Bool.true_and] at this; exact this
        clear hq
        go_wp2_with fail
        go_quiet (fail)
        go_wp2_with fail
        go_roundw
        case rel => exact ⟨k + 1, by omega, by go_num, E, HL.out.drewN _⟩
        case measure => simp [intOf]; omega
    · have E : Hid (r = true) := by have := HE.out; rw [List.drop_of_length_le (by omega), List.drop_of_length_le (by omega)] at this; exact this.symm
      go_wp2_with fail
      go_ret
      exact ⟨by rw [E.out]; rfl, HL.out⟩

theorem elem35 : Elem Try.prog 35 3 Int 8 := Elem.of (z := Value.int .i64 0) (by kernel_rfl) (by kernel_rfl) (by rfl) (by decide) (by decide)
theorem zero3 (w : World) : (zeroValue 3).run Try.prog w = .ok (Value.int .i64 0) w := by kernel_rfl

set_option maxRecDepth 20000 in
set_option maxHeartbeats 400000 in
theorem clone64 (xs : List Int) (v : Value) (B : Nat) (w : World) (hv : Rep.is w B xs [v]) (hB : B ≤ w.heap.size) :
    Calls Try.prog 64 #[v] w fun e w' => ∃ v', e = .returned v' ∧ Own w' w.heap.size 3 v' xs ∧ Below w.heap.size w w' := by
  have hv2 := hv
  obtain ⟨A, cap, hv0, hlen, hcap, h3, h4, h5⟩ := hv
  simp only [List.cons.injEq, and_true] at hv0
  subst hv0
  have h3' : xs.length * 8 ≤ reach := h3
  have HR := Rp.hid h3'
  unfold reach at h3'
  have hnil := fun (w : World) (a : Option Addr) (l c : Nat) => Lib.run_eql_slice_nil (P := Try.prog) w 35 3 a l c 0 0 Try.underlying35
  cases A with
  | none =>
    have hx : xs = [] := by
      have := h4 rfl
      cases xs with
      | nil => rfl
      | cons x xs => simp at hlen; omega
    subst hx
    have hc0 : cap = 0 := h4 rfl
    subst hc0
    clear h5 h4 h3 hcap hv2
    go_enter Try.func64, Try.ntmps64
    go_wp2_with fail
    go_ret
    exact ⟨_, rfl, Own.nil _ _ _, Below.refl _ _⟩
  | some a =>
    obtain ⟨flat, hf, hcells⟩ := list_flat (by decide) hv2
    clear h5 h4 h3 hcap hv2
    have HC : Hid (∀ j u, flat[j]? = some u → (w.alloc (.cells #[] 3)).cell? (a.add j) = some u) := fun j u hu => by
      have := hcells j u hu
      have hlt := World.block_lt_of_cell? w _ this
      rw [World.cell?_alloc_lt w _ _ hlt]
      exact this
    have HF := Rp.hid (hf.any (w' := w.alloc (.cells #[] 3)) (B' := (w.alloc (.cells #[] 3)).heap.size)); clear hf hcells
    have HM : Hid (Own (α := Int) (w.alloc (.cells #[] 3)) w.heap.size 3 (.slice (some ⟨w.heap.size, 0, none⟩) 0 0) []) := Own.made0 w _ 3 (Nat.le_refl _)
    have HZ : Hid ((0 + xs.length) * 8 ≤ reach) := Rp.hid (by rw [Nat.zero_add]; exact HR.out)
    go_enter Try.func64, Try.ntmps64
    go_wp2_with (at_builtin; refine wpList_append_rep (α := Int) _ rfl (.tmp 5) (.tmp 6) 35 rfl w.heap.size 3 8 elem35 _ [] xs rfl HM.out a cap rfl flat HF.out HC.out HZ.out (by simp) ?_; intro v' w1 hown hg _)
    have hb : Below w.heap.size w w1 := (below1 _ _).trans (grown_below (Own.made0 (α := Int) w _ 3 (Nat.le_refl _)) hg (by simp))
    have HO := Rp.hid hown; clear hown
    have HB := Rp.hid hb; clear hb hg
    go_wp2_with fail
    go_ret
    exact ⟨_, rfl, HO.out, HB.out⟩


set_option maxRecDepth 20000 in
set_option maxHeartbeats 400000 in
theorem delete62 (xs : List Int) (v : Value) (base : Nat) (w : World) (i : Nat) (hv : Own w base 3 v xs) (hi : i < xs.length) (hB : base ≤ w.heap.size) (hz : xs.length * 8 ≤ reach) :
    Calls Try.prog 62 #[v, .int .i64 i, .int .i64 (i + 1)] w fun e w' => ∃ v', e = .returned v' ∧ Own w' base 3 v' (xs.eraseIdx i) ∧ w.grownBy w' v.ownBlock ∧ v'.ownBlock = v.ownBlock := by
  obtain ⟨flat, ⟨hl, hr⟩, hf⟩ := hv
  rcases hr with ⟨rfl, h0⟩ | ⟨g, cap, cur, rfl, hbg, hg, hnc, hcm, hcs, htake⟩
  · omega
  obtain ⟨i0, z0, hi0, hz0, hz1, hz2, hz3⟩ := elem35.inf
  have hcm' : cap ≤ 9223372036854775807 := by unfold maxLen at hcm; omega
  have hlen : cur.toList.length = cap * 1 := by rw [Array.length_toList]; exact hcs
  have hn3 : Rep.n Int = 1 := rfl
  rw [hn3] at hl htake hcs
  -- the second piece
  obtain ⟨A, hA, hnews⟩ : ∃ A : Addr, (if cap = i + 1 then some (⟨g, 0, none⟩ : Addr) else some ⟨g, (i + 1), none⟩) = some A ∧ Hid (∀ j u, (flat.drop (i + 1))[j]? = some u → w.drew.cell? (A.add j) = some u) := by
    by_cases h : cap = i + 1
    · refine ⟨⟨g, 0, none⟩, by simp [h], fun j u hu => ?_⟩
      rw [List.drop_of_length_le (by omega)] at hu
      simp at hu
    · refine ⟨⟨g, (i + 1), none⟩, by simp [h], fun j u hu => ?_⟩
      rw [List.getElem?_drop] at hu
      have hlt := (List.getElem?_eq_some_iff.1 hu).1
      rw [← htake, List.getElem?_take_of_lt (by omega), Array.getElem?_toList] at hu
      rw [addr_add1]
      show w.cell? _ = _
      simpa [World.cell?, hg] using hu
  have s1 : Hid ((flat.drop (i + 1)).length = (xs.length - (i + 1)) * 1) := by show _ = _; rw [List.length_drop, hl]; omega
  have s2 : Hid (∀ u ∈ flat.drop (i + 1), u.oneCell' = true) := fun u hu => hf.one' u (List.mem_of_mem_drop hu)
  have s3 : Hid (∀ j, j < (flat.drop (i + 1)).length → (w.drew.cell? ⟨g, 0 + i * 1 + j, none⟩).isSome = true ∧ w.drew.frozen? ⟨g, 0 + i * 1 + j, none⟩ = false) := by
    intro j hj
    rw [List.length_drop, hl] at hj
    have hlt : i + j < cur.size := by omega
    constructor
    · show (w.cell? _).isSome = true
      simp [World.cell?, hg, hlt]
    · show w.frozen? _ = false
      simp [World.frozen?, hg]
  have hnl : (flat.drop (i + 1)).length = (xs.length - (i + 1)) * 1 := s1
  -- the world behind 'clear'
  obtain ⟨W2, hclear, HW2⟩ : ∃ W2, (Builtin.clear_ #[35] 0 #[.slice (some ⟨g, (i + (xs.length - (i + 1))), none⟩) (xs.length - (i + (xs.length - (i + 1)))) (cap - (i + (xs.length - (i + 1))))]).run Try.prog (w.drew.setCells g i (flat.drop (i + 1))) = .ok (.tuple #[]) W2 ∧
      Hid (Own W2 base 3 (.slice (some ⟨g, 0, none⟩) (i + (xs.length - (i + 1))) cap) (xs.eraseIdx i) ∧ w.grownBy W2 (some g)) := by
    have e1 : xs.length - (i + (xs.length - (i + 1))) = 1 := by omega
    have e2 : i + (xs.length - (i + 1)) = xs.length - 1 := by omega
    have hg1 : (w.drew.setCells g i (flat.drop (i + 1))).heap[g]? = some (.cells (splice cur.toList i (flat.drop (i + 1))).toArray 3 (0, 0)) :=
      heap_setCells (w := w.drew) hg (by rw [hnl]; omega)
    have hsl := splice_length (l := cur.toList) (o := i) (vs := flat.drop (i + 1)) (by rw [hnl]; omega)
    rw [e1, e2]
    have hzc : (Builtin.zeroCells (Value.int .i64 0).cells 1).toList = [.int .i64 0] := by kernel_rfl
    have hzs : (Builtin.zeroCells (Value.int .i64 0).cells 1).size = 1 := by rw [← Array.length_toList, hzc]; rfl
    refine ⟨_, run_clear_row _ 35 0 3 _ g ((xs.length - 1)) 1 _ _ Try.underlying35 zero3 (by omega) hg1 (by rw [hzs, List.size_toArray, hsl]; omega) (by rw [hzc]; intro u hu; simp only [List.mem_cons, List.not_mem_nil, or_false] at hu; subst hu; rfl), ?_, ?_⟩
    · refine ⟨flat.take i ++ flat.drop (i + 1), ⟨?_, .inr ⟨g, cap, _, ?_, hbg, setRow_heap _ g _ _ _ _ hg1, ?_, hcm, ?_, ?_⟩⟩, ?_⟩
      · rw [List.length_append, List.length_take, hnl, List.length_eraseIdx_of_lt hi, hn3]; omega
      · rw [List.length_eraseIdx_of_lt hi]
      · rw [List.length_eraseIdx_of_lt hi]; omega
      · have := splice_length (l := splice cur.toList i (flat.drop (i + 1))) (o := (xs.length - 1)) (vs := [.int .i64 0]) (by rw [hsl]; simp; omega)
        rw [List.size_toArray, hzc]
        simp only [List.toList_toArray]
        rw [this, hsl, hlen]
        rfl
      · rw [List.length_eraseIdx_of_lt hi, hzc]
        rw [hn3, Nat.mul_one]
        simp only [List.toList_toArray]
        rw [splice, List.append_assoc, List.take_append_of_le_length (by rw [List.length_take, hsl]; omega), List.take_take, Nat.min_self, splice, List.append_assoc, ← List.append_assoc,
          List.take_append_of_le_length (by rw [List.length_append, List.length_take, hnl]; omega), List.take_of_length_le (by rw [List.length_append, List.length_take, hnl]; omega), ← htake, List.take_take, Nat.min_eq_left (by omega)]
      · rw [List.eraseIdx_eq_take_drop_succ]
        have hfin := (hf.take i).append (hf.drop (i + 1))
        rw [hn3, Nat.mul_one, Nat.mul_one] at hfin
        exact hfin.any
    · exact grownBy_trans (grownBy_trans (grownBy_drew (grownBy_refl w _)) grownBy_setCells) (grownBy_setRow _ _ _)
  have hwr : IntKind.i64.wrap ((i : Int) + 1) = (i : Int) + 1 := by rw [IntKind.wrap_i64]; omega
  have hp0 : (0 : Int) ≤ (i : Int) + 1 := by omega
  have hp1 : (i : Int) + 1 ≤ (xs.length : Int) := by omega
  have hp2 : ((i : Int) + 1).toNat = i + 1 := by omega
  have hic : i ≤ cap := by omega
  have HG := Rp.hid hg; clear hg
  have HT := Rp.hid htake; clear htake
  have HCS := Rp.hid hcs; clear hcs
  have HL := Rp.hid hl; clear hl
  have HF := Rp.hid hf; clear hf
  have HLN := Rp.hid hlen; clear hlen
  clear hcm hn3 hnl
  go_enter Try.func62, Try.ntmps62
  go_wp2_with fail
  go_region_law (refine step_append_room rfl (.tmp 22) (.tmp 25) 35 rfl 3 i0 1 Try.underlying35 hi0 hz1 g 0 i cap (by simp [Act.eval, Act.put]) A (xs.length - (i + 1)) (cap - (i + 1)) (flat.drop (i + 1)) (by simp [Act.eval, Act.put]) s1.out hnews.out s2.out (by omega) s3.out ?_)
  go_wp2_with fail
  go_ret
  exact ⟨_, rfl, HW2.out.1, HW2.out.2, rfl⟩

theorem elem28 : Elem Try.prog 28 27 Op 32 := Elem.of (z := Value.agg #[.int .i64 0, .int .i64 0, .string ByteArray.empty]) (by kernel_rfl) (by kernel_rfl) (by rfl) (by decide) (by decide)
theorem zero27 (w : World) : (zeroValue 27).run Try.prog w = .ok (Value.agg #[.int .i64 0, .int .i64 0, .string ByteArray.empty]) w := by kernel_rfl

set_option maxRecDepth 20000 in
set_option maxHeartbeats 400000 in
theorem clone80 (xs : List Op) (v : Value) (B : Nat) (w : World) (hv : Rep.is w B xs [v]) (hB : B ≤ w.heap.size) :
    Calls Try.prog 80 #[v] w fun e w' => ∃ v', e = .returned v' ∧ Own w' w.heap.size 27 v' xs ∧ Below w.heap.size w w' := by
  have hv2 := hv
  obtain ⟨A, cap, hv0, hlen, hcap, h3, h4, h5⟩ := hv
  simp only [List.cons.injEq, and_true] at hv0
  subst hv0
  have h3' : xs.length * 32 ≤ reach := h3
  have HR := Rp.hid h3'
  unfold reach at h3'
  have hnil := fun (w : World) (a : Option Addr) (l c : Nat) => Lib.run_eql_slice_nil (P := Try.prog) w 28 27 a l c 0 0 Try.underlying28
  cases A with
  | none =>
    have hx : xs = [] := by
      have := h4 rfl
      cases xs with
      | nil => rfl
      | cons x xs => simp at hlen; omega
    subst hx
    have hc0 : cap = 0 := h4 rfl
    subst hc0
    clear h5 h4 h3 hcap hv2
    go_enter Try.func80, Try.ntmps80
    go_wp2_with fail
    go_ret
    exact ⟨_, rfl, Own.nil _ _ _, Below.refl _ _⟩
  | some a =>
    obtain ⟨flat, hf, hcells⟩ := list_flat (by decide) hv2
    clear h5 h4 h3 hcap hv2
    have HC : Hid (∀ j u, flat[j]? = some u → (w.alloc (.cells #[] 27)).cell? (a.add j) = some u) := fun j u hu => by
      have := hcells j u hu
      have hlt := World.block_lt_of_cell? w _ this
      rw [World.cell?_alloc_lt w _ _ hlt]
      exact this
    have HF := Rp.hid (hf.any (w' := w.alloc (.cells #[] 27)) (B' := (w.alloc (.cells #[] 27)).heap.size)); clear hf hcells
    have HM : Hid (Own (α := Op) (w.alloc (.cells #[] 27)) w.heap.size 27 (.slice (some ⟨w.heap.size, 0, none⟩) 0 0) []) := Own.made0 w _ 27 (Nat.le_refl _)
    have HZ : Hid ((0 + xs.length) * 32 ≤ reach) := Rp.hid (by rw [Nat.zero_add]; exact HR.out)
    go_enter Try.func80, Try.ntmps80
    go_wp2_with (at_builtin; refine wpList_append_rep (α := Op) _ rfl (.tmp 5) (.tmp 6) 28 rfl w.heap.size 27 32 elem28 _ [] xs rfl HM.out a cap rfl flat HF.out HC.out HZ.out (by simp) ?_; intro v' w1 hown hg _)
    have hb : Below w.heap.size w w1 := (below1 _ _).trans (grown_below (Own.made0 (α := Op) w _ 27 (Nat.le_refl _)) hg (by simp))
    have HO := Rp.hid hown; clear hown
    have HB := Rp.hid hb; clear hb hg
    go_wp2_with fail
    go_ret
    exact ⟨_, rfl, HO.out, HB.out⟩


set_option maxRecDepth 20000 in
set_option maxHeartbeats 400000 in
theorem delete84 (xs : List Op) (v : Value) (base : Nat) (w : World) (i : Nat) (hv : Own w base 27 v xs) (hi : i < xs.length) (hB : base ≤ w.heap.size) (hz : xs.length * 32 ≤ reach) :
    Calls Try.prog 84 #[v, .int .i64 i, .int .i64 (i + 1)] w fun e w' => ∃ v', e = .returned v' ∧ Own w' base 27 v' (xs.eraseIdx i) ∧ w.grownBy w' v.ownBlock ∧ v'.ownBlock = v.ownBlock := by
  obtain ⟨flat, ⟨hl, hr⟩, hf⟩ := hv
  rcases hr with ⟨rfl, h0⟩ | ⟨g, cap, cur, rfl, hbg, hg, hnc, hcm, hcs, htake⟩
  · omega
  obtain ⟨i0, z0, hi0, hz0, hz1, hz2, hz3⟩ := elem28.inf
  have hcm' : cap ≤ 9223372036854775807 := by unfold maxLen at hcm; omega
  have hlen : cur.toList.length = cap * 3 := by rw [Array.length_toList]; exact hcs
  have hn3 : Rep.n Op = 3 := rfl
  rw [hn3] at hl htake hcs
  -- the second piece
  obtain ⟨A, hA, hnews⟩ : ∃ A : Addr, (if cap = i + 1 then some (⟨g, 0, none⟩ : Addr) else some ⟨g, ((i + 1) * 3), none⟩) = some A ∧ Hid (∀ j u, (flat.drop ((i + 1) * 3))[j]? = some u → w.drew.cell? (A.add j) = some u) := by
    by_cases h : cap = i + 1
    · refine ⟨⟨g, 0, none⟩, by simp [h], fun j u hu => ?_⟩
      rw [List.drop_of_length_le (by omega)] at hu
      simp at hu
    · refine ⟨⟨g, ((i + 1) * 3), none⟩, by simp [h], fun j u hu => ?_⟩
      rw [List.getElem?_drop] at hu
      have hlt := (List.getElem?_eq_some_iff.1 hu).1
      rw [← htake, List.getElem?_take_of_lt (by omega), Array.getElem?_toList] at hu
      rw [addr_add1]
      show w.cell? _ = _
      simpa [World.cell?, hg] using hu
  have s1 : Hid ((flat.drop ((i + 1) * 3)).length = (xs.length - (i + 1)) * 3) := by show _ = _; rw [List.length_drop, hl]; omega
  have s2 : Hid (∀ u ∈ flat.drop ((i + 1) * 3), u.oneCell' = true) := fun u hu => hf.one' u (List.mem_of_mem_drop hu)
  have s3 : Hid (∀ j, j < (flat.drop ((i + 1) * 3)).length → (w.drew.cell? ⟨g, 0 + i * 3 + j, none⟩).isSome = true ∧ w.drew.frozen? ⟨g, 0 + i * 3 + j, none⟩ = false) := by
    intro j hj
    rw [List.length_drop, hl] at hj
    have hlt : (i * 3) + j < cur.size := by omega
    constructor
    · show (w.cell? _).isSome = true
      simp [World.cell?, hg, hlt]
    · show w.frozen? _ = false
      simp [World.frozen?, hg]
  have hnl : (flat.drop ((i + 1) * 3)).length = (xs.length - (i + 1)) * 3 := s1
  -- the world behind 'clear'
  obtain ⟨W2, hclear, HW2⟩ : ∃ W2, (Builtin.clear_ #[28] 0 #[.slice (some ⟨g, (i + (xs.length - (i + 1))) * 3, none⟩) (xs.length - (i + (xs.length - (i + 1)))) (cap - (i + (xs.length - (i + 1))))]).run Try.prog (w.drew.setCells g (i * 3) (flat.drop ((i + 1) * 3))) = .ok (.tuple #[]) W2 ∧
      Hid (Own W2 base 27 (.slice (some ⟨g, 0, none⟩) (i + (xs.length - (i + 1))) cap) (xs.eraseIdx i) ∧ w.grownBy W2 (some g)) := by
    have e1 : xs.length - (i + (xs.length - (i + 1))) = 1 := by omega
    have e2 : i + (xs.length - (i + 1)) = xs.length - 1 := by omega
    have hg1 : (w.drew.setCells g (i * 3) (flat.drop ((i + 1) * 3))).heap[g]? = some (.cells (splice cur.toList (i * 3) (flat.drop ((i + 1) * 3))).toArray 27 (0, 0)) :=
      heap_setCells (w := w.drew) hg (by rw [hnl]; omega)
    have hsl := splice_length (l := cur.toList) (o := (i * 3)) (vs := flat.drop ((i + 1) * 3)) (by rw [hnl]; omega)
    rw [e1, e2]
    have hzc : (Builtin.zeroCells (Value.agg #[.int .i64 0, .int .i64 0, .string ByteArray.empty]).cells 1).toList = [.int .i64 0, .int .i64 0, .string ByteArray.empty] := by kernel_rfl
    have hzs : (Builtin.zeroCells (Value.agg #[.int .i64 0, .int .i64 0, .string ByteArray.empty]).cells 1).size = 3 := by rw [← Array.length_toList, hzc]; rfl
    refine ⟨_, run_clear_row _ 28 0 27 _ g ((xs.length - 1) * 3) 1 _ _ Try.underlying28 zero27 (by omega) hg1 (by rw [hzs, List.size_toArray, hsl]; omega) (by rw [hzc]; intro u hu; simp only [List.mem_cons, List.not_mem_nil, or_false] at hu; rcases hu with rfl | rfl | rfl <;> rfl), ?_, ?_⟩
    · refine ⟨flat.take (i * 3) ++ flat.drop ((i + 1) * 3), ⟨?_, .inr ⟨g, cap, _, ?_, hbg, setRow_heap _ g _ _ _ _ hg1, ?_, hcm, ?_, ?_⟩⟩, ?_⟩
      · rw [List.length_append, List.length_take, hnl, List.length_eraseIdx_of_lt hi, hn3]; omega
      · rw [List.length_eraseIdx_of_lt hi]
      · rw [List.length_eraseIdx_of_lt hi]; omega
      · have := splice_length (l := splice cur.toList (i * 3) (flat.drop ((i + 1) * 3))) (o := (xs.length - 1) * 3) (vs := [.int .i64 0, .int .i64 0, .string ByteArray.empty]) (by rw [hsl]; simp; omega)
        rw [List.size_toArray, hzc]
        simp only [List.toList_toArray]
        rw [this, hsl, hlen]
        rfl
      · rw [List.length_eraseIdx_of_lt hi, hzc]
        show List.take ((xs.length - 1) * 3) _ = _
        simp only [List.toList_toArray]
        rw [splice, List.append_assoc, List.take_append_of_le_length (by rw [List.length_take, hsl]; omega), List.take_take, Nat.min_self, splice, List.append_assoc, ← List.append_assoc,
          List.take_append_of_le_length (by rw [List.length_append, List.length_take, hnl]; omega), List.take_of_length_le (by rw [List.length_append, List.length_take, hnl]; omega), ← htake, List.take_take, Nat.min_eq_left (by omega)]
      · rw [List.eraseIdx_eq_take_drop_succ]
        exact ((hf.take i).append (hf.drop (i + 1))).any
    · exact grownBy_trans (grownBy_trans (grownBy_drew (grownBy_refl w _)) grownBy_setCells) (grownBy_setRow _ _ _)
  have hwr : IntKind.i64.wrap ((i : Int) + 1) = (i : Int) + 1 := by rw [IntKind.wrap_i64]; omega
  have hp0 : (0 : Int) ≤ (i : Int) + 1 := by omega
  have hp1 : (i : Int) + 1 ≤ (xs.length : Int) := by omega
  have hp2 : ((i : Int) + 1).toNat = i + 1 := by omega
  have hic : i ≤ cap := by omega
  have HG := Rp.hid hg; clear hg
  have HT := Rp.hid htake; clear htake
  have HCS := Rp.hid hcs; clear hcs
  have HL := Rp.hid hl; clear hl
  have HF := Rp.hid hf; clear hf
  have HLN := Rp.hid hlen; clear hlen
  clear hcm hn3 hnl
  go_enter Try.func84, Try.ntmps84
  go_wp2_with fail
  go_region_law (refine step_append_room rfl (.tmp 22) (.tmp 25) 28 rfl 27 i0 3 Try.underlying28 hi0 hz1 g 0 i cap (by simp [Act.eval, Act.put]) A (xs.length - (i + 1)) (cap - (i + 1)) (flat.drop ((i + 1) * 3)) (by simp [Act.eval, Act.put]) s1.out hnews.out s2.out (by omega) s3.out ?_)
  go_wp2_with fail
  go_ret
  exact ⟨_, rfl, HW2.out.1, HW2.out.2, rfl⟩

theorem elem65 : Elem Try.prog 65 4 Bool 1 := Elem.of (z := Value.bool false) (by kernel_rfl) (by kernel_rfl) (by rfl) (by decide) (by decide)
theorem zero4 (w : World) : (zeroValue 4).run Try.prog w = .ok (Value.bool false) w := by kernel_rfl

set_option maxRecDepth 20000 in
set_option maxHeartbeats 400000 in
theorem clone90 (xs : List Bool) (v : Value) (B : Nat) (w : World) (hv : Rep.is w B xs [v]) (hB : B ≤ w.heap.size) :
    Calls Try.prog 90 #[v] w fun e w' => ∃ v', e = .returned v' ∧ Own w' w.heap.size 4 v' xs ∧ Below w.heap.size w w' := by
  have hv2 := hv
  obtain ⟨A, cap, hv0, hlen, hcap, h3, h4, h5⟩ := hv
  simp only [List.cons.injEq, and_true] at hv0
  subst hv0
  have h3' : xs.length * 1 ≤ reach := h3
  have HR := Rp.hid h3'
  unfold reach at h3'
  have hnil := fun (w : World) (a : Option Addr) (l c : Nat) => Lib.run_eql_slice_nil (P := Try.prog) w 65 4 a l c 0 0 Try.underlying65
  cases A with
  | none =>
    have hx : xs = [] := by
      have := h4 rfl
      cases xs with
      | nil => rfl
      | cons x xs => simp at hlen; omega
    subst hx
    have hc0 : cap = 0 := h4 rfl
    subst hc0
    clear h5 h4 h3 hcap hv2
    go_enter Try.func90, Try.ntmps90
    go_wp2_with fail
    go_ret
    exact ⟨_, rfl, Own.nil _ _ _, Below.refl _ _⟩
  | some a =>
    obtain ⟨flat, hf, hcells⟩ := list_flat (by decide) hv2
    clear h5 h4 h3 hcap hv2
    have HC : Hid (∀ j u, flat[j]? = some u → (w.alloc (.cells #[] 4)).cell? (a.add j) = some u) := fun j u hu => by
      have := hcells j u hu
      have hlt := World.block_lt_of_cell? w _ this
      rw [World.cell?_alloc_lt w _ _ hlt]
      exact this
    have HF := Rp.hid (hf.any (w' := w.alloc (.cells #[] 4)) (B' := (w.alloc (.cells #[] 4)).heap.size)); clear hf hcells
    have HM : Hid (Own (α := Bool) (w.alloc (.cells #[] 4)) w.heap.size 4 (.slice (some ⟨w.heap.size, 0, none⟩) 0 0) []) := Own.made0 w _ 4 (Nat.le_refl _)
    have HZ : Hid ((0 + xs.length) * 1 ≤ reach) := Rp.hid (by rw [Nat.zero_add]; exact HR.out)
    go_enter Try.func90, Try.ntmps90
    go_wp2_with (at_builtin; refine wpList_append_rep (α := Bool) _ rfl (.tmp 5) (.tmp 6) 65 rfl w.heap.size 4 1 elem65 _ [] xs rfl HM.out a cap rfl flat HF.out HC.out HZ.out (by simp) ?_; intro v' w1 hown hg _)
    have hb : Below w.heap.size w w1 := (below1 _ _).trans (grown_below (Own.made0 (α := Bool) w _ 4 (Nat.le_refl _)) hg (by simp))
    have HO := Rp.hid hown; clear hown
    have HB := Rp.hid hb; clear hb hg
    go_wp2_with fail
    go_ret
    exact ⟨_, rfl, HO.out, HB.out⟩


end Go.Proofs.Ytabjbkdlacibjaa
