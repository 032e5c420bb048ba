/- How Go data lie in memory, by Lean types: integers, bools, strings, slices and structs; the opening of an argument's reading. -/
import Derived.WalkKit
import Derived.ProofKit
import Derived.ChangeArms
import Derived.SizedLaws
import Derived.Deep.Draws
namespace Go.Rp
open Go.RowKit Go.ChangeShapes Go.WideShapes
abbrev reach : Nat := 140737488355328
class Rep (α : Type) where
 n : Nat
 bytes : Nat
 Ty : Program → TypeId → Prop
 is : World → Nat → α → List Value → Prop
 len : ∀ {w B a cs}, is w B a cs → cs.length = n
 one : ∀ {w B a cs}, is w B a cs → ∀ u ∈ cs, u.oneCell' = true
 ty_cells : ∀ {P T}, Ty P T → P.cellsOf T = n
 ty_bytes : ∀ {P T}, Ty P T → bytes ≤ P.bytesOf T
 below : ∀ {w w' B a cs}, is w B a cs → Below B w w' → is w' B a cs
 mono : ∀ {w B B' a cs}, is w B a cs → B ≤ B' → is w B' a cs
 box : List Value → Value
 okBox : ∀ {P T w b v}, Ty P T → Value.okWide P w .any b T v → v = box v.cells.toList
 opens : ∀ {H : Type} {enc : TypeId × Value → H} {P : Program} {w : World} {fuel : Nat} {T : TypeId} {cs : List Value} {x : DataW H × List MemPlace},
  Ty P T → DataW.trod enc P w 0 (fun _ => true) true fuel T cs = some x → (x.1.weights P T).all (· ≤ reachBytes) = true → ∃ a, is w w.heap.size a cs
theorem all_append {l l' : List Nat} (h : (l ++ l').all (· ≤ reachBytes) = true) : l.all (· ≤ reachBytes) = true ∧ l'.all (· ≤ reachBytes) = true := by
 rw [List.all_append, Bool.and_eq_true] at h; exact h
def InI64 (n : Int) : Prop := -9223372036854775808 ≤ n ∧ n ≤ 9223372036854775807
theorem inI64_of_wf {n : Int} (h : (Lit.int .i64 n).wf = true) : InI64 n := by
 simp [Lit.wf, IntKind.min, IntKind.max, IntKind.signed, IntKind.bits] at h
 unfold InI64; omega
instance : Rep Int where
 n := 1
 bytes := 8
 Ty P T := P.underlying T = some (.int .i64) ∧ P.cellsOf T = 1 ∧ P.bytesOf T = 8
 is _ _ a cs := cs = [.int .i64 a] ∧ InI64 a
 len h := by rw [h.1]; rfl
 one h u hu := by rw [h.1] at hu; simp at hu; subst hu; rfl
 ty_cells h := h.2.1
 ty_bytes h := by rw [h.2.2]; exact Nat.le_refl _
 below h _ := h
 mono h _ := h
 box cs := cs.headD undef
 okBox ht h := by obtain ⟨n, rfl⟩ := okWide_int ht.1 h; rfl
 opens ht h _ := by
  obtain ⟨n, rfl, _, hw⟩ := DataW.trod_int ht.1 h
  exact ⟨n, rfl, inI64_of_wf hw⟩
instance : Rep Bool where
 n := 1
 bytes := 1
 Ty P T := P.underlying T = some .bool ∧ P.cellsOf T = 1 ∧ P.bytesOf T = 1
 is _ _ a cs := cs = [.bool a]
 len h := by rw [h]; rfl
 one h u hu := by rw [h] at hu; simp at hu; subst hu; rfl
 ty_cells h := h.2.1
 ty_bytes h := by rw [h.2.2]; exact Nat.le_refl _
 below h _ := h
 mono h _ := h
 box cs := cs.headD undef
 okBox ht h := by obtain ⟨n, rfl⟩ := okWide_bool ht.1 h; rfl
 opens ht h _ := by
  obtain ⟨n, rfl, _⟩ := DataW.trod_bool ht.1 h
  exact ⟨n, rfl⟩
instance : Rep ByteArray where
 n := 1
 bytes := 16
 Ty P T := P.underlying T = some .string ∧ P.cellsOf T = 1 ∧ P.bytesOf T = 16
 is _ _ a cs := cs = [.string a] ∧ a.size ≤ reach
 len h := by rw [h.1]; rfl
 one h u hu := by rw [h.1] at hu; simp at hu; subst hu; rfl
 ty_cells h := h.2.1
 ty_bytes h := by rw [h.2.2]; exact Nat.le_refl _
 below h _ := h
 mono h _ := h
 box cs := cs.headD undef
 okBox ht h := by obtain ⟨n, rfl⟩ := okWide_string ht.1 h; rfl
 opens ht h hz := by
  obtain ⟨s, rfl, rfl, hw⟩ := DataW.trod_string ht.1 h
  refine ⟨s, rfl, ?_⟩
  have h1 : s.data.toList.length ≤ reachBytes := by
   unfold DataW.weights at hz
   rw [List.all_cons, Bool.and_eq_true] at hz
   exact of_decide_eq_true hz.1
  have h2 : s.data.toList.length = s.size := by rw [Array.length_toList]; rfl
  unfold reachBytes at h1
  unfold reach; omega
instance : Rep UInt8 where
 n := 1
 bytes := 1
 Ty P T := P.underlying T = some (.int .u8) ∧ P.cellsOf T = 1 ∧ P.bytesOf T = 1
 is _ _ a cs := cs = [.int .u8 a.toNat]
 len h := by rw [h]; rfl
 one h u hu := by rw [h] at hu; simp at hu; subst hu; rfl
 ty_cells h := h.2.1
 ty_bytes h := by rw [h.2.2]; exact Nat.le_refl _
 below h _ := h
 mono h _ := h
 box cs := cs.headD undef
 okBox ht h := by obtain ⟨n, rfl⟩ := okWide_int ht.1 h; rfl
 opens ht h _ := by
  obtain ⟨n, rfl, _, hw⟩ := DataW.trod_int ht.1 h
  simp [Lit.wf, IntKind.min, IntKind.max, IntKind.signed, IntKind.bits] at hw
  refine ⟨UInt8.ofNat n.toNat, ?_⟩
  simp
  omega
def isList {α : Type} [Rep α] (w : World) (B : Nat) (xs : List α) (cs : List Value) : Prop :=
 ∃ (A : Option Addr) (cap : Nat), cs = [.slice A xs.length cap] ∧ xs.length ≤ cap ∧ cap ≤ maxLen ∧ xs.length * Rep.bytes α ≤ reach ∧ (A = none → cap = 0) ∧
  ∀ i (h : i < xs.length), ∃ b off es, A = some ⟨b, off, none⟩ ∧ b < B ∧ Rep.is w B xs[i] es ∧ ∀ j, j < Rep.n α → w.cell? ⟨b, off + i * Rep.n α + j, none⟩ = es[j]?
theorem weightsAll_mem {H : Type} {P : Program} {e : TypeId} : ∀ {ds : List (DataW H)}, (DataW.weightsAll P e ds).all (· ≤ reachBytes) = true → ∀ d ∈ ds, (d.weights P e).all (· ≤ reachBytes) = true
 | [], _, d, h => by cases h
 | x :: r, hz, d, h => by
  simp only [DataW.weightsAll] at hz
  obtain ⟨h1, h2⟩ := all_append hz
  rcases List.mem_cons.1 h with rfl | h
  ·exact h1
  ·exact weightsAll_mem h2 d h
theorem weightsEach_cons {H : Type} {P : Program} {t : TypeId} {ts : List TypeId} {d : DataW H} {ds : List (DataW H)} (h : (DataW.weightsEach P (t :: ts) (d :: ds)).all (· ≤ reachBytes) = true) :
  (d.weights P t).all (· ≤ reachBytes) = true ∧ (DataW.weightsEach P ts ds).all (· ≤ reachBytes) = true := by
 simp only [DataW.weightsEach] at h
 exact all_append h
theorem mapM_get {α β : Type} (f : α → Option β) : ∀ (l : List α) (r : List β), l.mapM f = some r → ∀ i (h : i < l.length), f l[i] = r[i]? ∧ r.length = l.length
 | [], r, _, i, h => by simp at h
 | x :: l, r, hm, i, h => by
  rw [List.mapM_cons] at hm
  cases hx : f x with
  | none => rw [hx] at hm; simp at hm
  | some y =>
   rw [hx] at hm
   cases hl : l.mapM f with
   | none => simp [hl] at hm
   | some r' =>
    simp [hl] at hm
    subst hm
    cases i with
    | zero =>
     refine ⟨by simp [hx], ?_⟩
     cases l with
     | nil => simp at hl; subst hl; rfl
     | cons z l => simp [(mapM_get f (z :: l) r' hl 0 (by simp)).2]
    | succ i =>
     have := mapM_get f l r' hl i (by simpa using h)
     refine ⟨by simpa using this.1, by simp [this.2]⟩
theorem cells?_get {w : World} {base : Nat} {a : Addr} {n : Nat} {cs : List Value} (h : w.cells? base a n = some cs) (j : Nat) (hj : j < n) : w.cell? (a.add j) = cs[j]? := by
 unfold World.cells? at h
 split at h
 ·have := (mapM_get _ _ _ h j (by simpa using hj)).1
  simpa using this
 ·cases h
theorem cells?_length {w : World} {base : Nat} {a : Addr} {n : Nat} {cs : List Value} (h : w.cells? base a n = some cs) : cs.length = n := by
 unfold World.cells? at h
 split at h
 ·cases n with
  | zero => simp at h; subst h; rfl
  | succ n => simpa using (mapM_get _ _ _ h 0 (by simp)).2
 ·cases h
theorem spot_none_of_cell {w : World} {a : Addr} {u : Value} (h : w.cell? a = some u) : a.spot = none := by
 unfold World.cell? at h
 split at h
 ·cases hs : a.spot with
  | none => rfl
  | some x => simp [hs] at h
 ·cases h
theorem addr_add {b off : Nat} (i j : Nat) : ((⟨b, off, none⟩ : Addr).add i).add j = ⟨b, off + i + j, none⟩ := by
 unfold Addr.add
 by_cases hi : i = 0 <;> by_cases hj : j = 0 <;> simp [hi, hj]
theorem choose_list {α : Type} {n : Nat} {p : Nat → α → Prop} (h : ∀ i, i < n → ∃ x, p i x) : ∃ l : List α, l.length = n ∧ ∀ i (hi : i < l.length), p i l[i] := by
 induction n with
 | zero => exact ⟨[], rfl, fun i hi => by simp at hi⟩
 | succ n ih =>
  obtain ⟨l, hl, hp⟩ := ih fun i hi => h i (by omega)
  obtain ⟨x, hx⟩ := h n (by omega)
  refine ⟨l ++ [x], by simp [hl], fun i hi => ?_⟩
  rcases Nat.lt_or_ge i n with h' | h'
  ·rw [List.getElem_append_left (by omega)]; exact hp i (by omega)
  ·have : i = n := by simp at hi; omega
   subst this
   rw [List.getElem_append_right (by omega)]
   simpa [hl] using hx
instance {α : Type} [Rep α] : Rep (List α) where
 n := 1
 bytes := 24
 Ty P T := ∃ e, P.underlying T = some (.slice e) ∧ P.cellsOf T = 1 ∧ P.bytesOf T = 24 ∧ Rep.Ty α P e ∧ 0 < Rep.n α
 is := isList
 len h := by obtain ⟨A, cap, rfl, _⟩ := h; rfl
 one h u hu := by obtain ⟨A, cap, rfl, _⟩ := h; simp at hu; subst hu; rfl
 ty_cells h := by obtain ⟨_, _, h, _⟩ := h; exact h
 ty_bytes h := by obtain ⟨_, _, _, h, _⟩ := h; rw [h]; exact Nat.le_refl _
 below h hb := by
  obtain ⟨A, cap, rfl, h1, h2, h3, h4, h5⟩ := h
  refine ⟨A, cap, rfl, h1, h2, h3, h4, fun i hi => ?_⟩
  obtain ⟨b, off, es, hA, hB, hes, hc⟩ := h5 i hi
  exact ⟨b, off, es, hA, hB, Rep.below hes hb, fun j hj => (hb.cell (p := ⟨b, _, none⟩) hB).trans (hc j hj)⟩
 mono h hB := by
  obtain ⟨A, cap, rfl, h1, h2, h3, h4, h5⟩ := h
  refine ⟨A, cap, rfl, h1, h2, h3, h4, fun i hi => ?_⟩
  obtain ⟨b, off, es, hA, hb, hes, hc⟩ := h5 i hi
  exact ⟨b, off, es, hA, Nat.lt_of_lt_of_le hb hB, Rep.mono hes hB, hc⟩
 box cs := cs.headD undef
 okBox ht h := by obtain ⟨e, hu, _⟩ := ht; obtain ⟨a, l, c, rfl⟩ := okWide_slice hu h; rfl
 opens {H enc P w fuel T cs x} ht h hz := by
  obtain ⟨e, hu, _, _, hte, hn⟩ := ht
  have hce : P.cellsOf e = Rep.n α := Rep.ty_cells hte
  have hbe := Rep.ty_bytes hte
  rcases DataW.trod_slice hu h with ⟨rfl, rfl⟩ | ⟨a, len, cap, elems, rest, n, _, rfl, rfl, _, hl, hm, hlen, hel, hsp, _⟩
  ·exact ⟨([] : List α), none, 0, rfl, Nat.le_refl _, Nat.zero_le _, by simp, fun _ => rfl, fun i hi => by simp at hi⟩
  ·have hrest := hsp rfl
   simp only [DataW.weights, hu, List.length_map] at hz
   rw [List.all_cons, Bool.and_eq_true] at hz
   obtain ⟨hz1, hz2⟩ := hz
   obtain ⟨hz2, _⟩ := all_append hz2
   have hcap : cap * P.bytesOf e ≤ reachBytes := by
    have : elems.length + rest.length = cap := by omega
    rw [this] at hz1; simpa using hz1
   have each : ∀ i, i < len → ∃ y : α, ∃ b off es, a = ⟨b, off, none⟩ ∧ b < w.heap.size ∧ Rep.is w w.heap.size y es ∧ ∀ j, j < Rep.n α → w.cell? ⟨b, off + i * Rep.n α + j, none⟩ = es[j]? := by
    intro i hi
    have h1 := hel i hi
    have hi' : i < elems.length := by omega
    rw [List.getElem?_eq_getElem hi'] at h1
    cases hc : w.cells? 0 (a.add (i * P.cellsOf e)) (P.cellsOf e) with
    | none => rw [hc] at h1; cases h1
    | some es =>
     rw [hc] at h1
     simp only [Option.bind_some] at h1
     obtain ⟨y, hy⟩ := Rep.opens (α := α) hte h1 (weightsAll_mem hz2 _ (List.mem_map.2 ⟨_, List.getElem_mem hi', rfl⟩))
     have hcell := cells?_get hc
     have hes := cells?_length hc
     have h0 : ∃ u, w.cell? a = some u := by
      have h1 := hel 0 (by omega)
      have h0' : 0 < elems.length := by omega
      rw [List.getElem?_eq_getElem h0'] at h1
      cases hc0 : w.cells? 0 (a.add (0 * P.cellsOf e)) (P.cellsOf e) with
      | none => rw [hc0] at h1; cases h1
      | some es0 =>
       have hg := cells?_get hc0 0 (by rw [hce]; exact hn)
       have hl0 := cells?_length hc0
       simp only [Nat.zero_mul, Addr.add, if_true] at hg
       rw [hg]
       exact ⟨_, List.getElem?_eq_getElem (by rw [hl0, hce]; exact hn)⟩
     obtain ⟨u, hu0⟩ := h0
     have hs := spot_none_of_cell hu0
     have hblt := World.block_lt_of_cell? w a hu0
     obtain ⟨b, off, sp⟩ := a
     simp only at hs
     subst hs
     refine ⟨y, b, off, es, rfl, hblt, hy, fun j hj => ?_⟩
     have := hcell j (by rw [hce]; exact hj)
     rw [addr_add, hce] at this
     exact this
   obtain ⟨ys, hys, hp⟩ := choose_list each
   refine ⟨ys, some a, cap, by rw [hys], by omega, hm, ?_, (fun h => by cases h), fun i hi => ?_⟩
   ·have h1 : ys.length * Rep.bytes α ≤ cap * P.bytesOf e := Nat.mul_le_mul (by omega) hbe
    unfold reachBytes at hcap
    unfold reach; omega
   ·obtain ⟨b, off, es, rfl, h2, h3, h4⟩ := hp i hi
    exact ⟨b, off, es, rfl, h2, h3, h4⟩
class Flds (α : Type) where
 n : Nat
 bytes : Nat
 FTy : Program → List Field → Nat → Prop
 is : World → Nat → α → List Value → Prop
 len : ∀ {w B a cs}, is w B a cs → cs.length = n
 one : ∀ {w B a cs}, is w B a cs → ∀ u ∈ cs, u.oneCell' = true
 below : ∀ {w w' B a cs}, is w B a cs → Below B w w' → is w' B a cs
 mono : ∀ {w B B' a cs}, is w B a cs → B ≤ B' → is w B' a cs
 opens : ∀ {H : Type} {enc : TypeId × Value → H} {P : Program} {w : World} {fuel : Nat} {fs : List Field} {off : Nat} {cs : List Value} {xs : List (DataW H × List MemPlace)},
  FTy P fs off → xs.length = fs.length → cs.length = off + n → (∀ (i : Nat) (f : Field), fs[i]? = some f → DataW.trod enc P w 0 (fun _ => true) true fuel f.type ((cs.drop f.offset).take (P.cellsOf f.type)) = xs[i]?) →
  (DataW.weightsEach P (fs.map (·.type)) (xs.map (·.1))).all (· ≤ reachBytes) = true → ∃ a, is w w.heap.size a (cs.drop off)
structure St (α : Type) where
 val : α
instance : Flds Unit where
 n := 0
 bytes := 0
 FTy _ fs _ := fs = []
 is _ _ _ cs := cs = []
 len h := by rw [h]; rfl
 one h u hu := by rw [h] at hu; cases hu
 below h _ := h
 mono h _ := h
 opens _ _ h _ _ := ⟨(), List.drop_eq_nil_of_le (by omega)⟩
instance {α β : Type} [Rep α] [Flds β] : Flds (α × β) where
 n := Rep.n α + Flds.n β
 bytes := Rep.bytes α + Flds.bytes β
 FTy P fs off := ∃ f r, fs = f :: r ∧ f.offset = off ∧ Rep.Ty α P f.type ∧ Flds.FTy β P r (off + Rep.n α)
 is w B a cs := ∃ c1 c2, cs = c1 ++ c2 ∧ Rep.is w B a.1 c1 ∧ Flds.is w B a.2 c2
 len h := by obtain ⟨c1, c2, rfl, h1, h2⟩ := h; rw [List.length_append, Rep.len h1, Flds.len h2]
 one h u hu := by obtain ⟨c1, c2, rfl, h1, h2⟩ := h; exact (List.mem_append.1 hu).elim (Rep.one h1 u) (Flds.one h2 u)
 below h hb := by obtain ⟨c1, c2, rfl, h1, h2⟩ := h; exact ⟨c1, c2, rfl, Rep.below h1 hb, Flds.below h2 hb⟩
 mono h hb := by obtain ⟨c1, c2, rfl, h1, h2⟩ := h; exact ⟨c1, c2, rfl, Rep.mono h1 hb, Flds.mono h2 hb⟩
 opens {H enc P w fuel fs off cs xs} ht hlen hcs h hz := by
  obtain ⟨f, r, rfl, hoff, hty, hr⟩ := ht
  match xs, hlen with
  | x :: xs, hlen =>
   have h0 := h 0 f rfl
   rw [hoff, Rep.ty_cells hty] at h0
   simp only [List.map_cons] at hz
   obtain ⟨hz1, hz2⟩ := weightsEach_cons hz
   obtain ⟨a, ha⟩ := Rep.opens hty h0 hz1
   obtain ⟨b, hb⟩ := Flds.opens (α := β) (cs := cs) hr (by simpa using hlen) (by omega)
    (fun i g hg => by simpa using h (i + 1) g (by simpa using hg)) hz2
   refine ⟨(a, b), (cs.drop off).take (Rep.n α), cs.drop (off + Rep.n α), ?_, ha, hb⟩
   rw [← List.drop_drop, List.take_append_drop]
instance {α : Type} [Flds α] : Rep (St α) where
 n := Flds.n α
 bytes := Flds.bytes α
 Ty P T := ∃ fs : Array Field, P.underlying T = some (.struct fs) ∧ P.cellsOf T = Flds.n α ∧ Flds.bytes α ≤ P.bytesOf T ∧ Flds.FTy α P fs.toList 0
 is w B a cs := Flds.is w B a.val cs
 len h := Flds.len h
 one h := Flds.one (α := α) h
 ty_cells h := by obtain ⟨_, _, h, _⟩ := h; exact h
 ty_bytes h := by obtain ⟨_, _, _, h, _⟩ := h; exact h
 below h hb := Flds.below h hb
 mono h hb := Flds.mono h hb
 box cs := .agg cs.toArray
 okBox ht h := by
  obtain ⟨fs, hu, _⟩ := ht
  simp only [Value.okWide, hu] at h
  obtain ⟨cs, rfl, _⟩ := h
  simp [Value.cells]
 opens {H enc P w fuel T cs x} ht h hz := by
  obtain ⟨fs, hu, hc, _, hf⟩ := ht
  obtain ⟨xs, n, _, rfl, hl, hlen, hx⟩ := DataW.trod_struct hu h
  simp only [DataW.weights, hu] at hz
  obtain ⟨a, ha⟩ := Flds.opens (α := α) (cs := cs) (xs := xs) hf (by simpa using hlen) (by omega) (fun i f hg => hx i f (by simpa using hg)) hz
  exact ⟨⟨a⟩, by simpa using ha⟩
theorem hid {p : Prop} (h : p) : Hid p := h
theorem heap_setCell_at {w : World} {k i : Nat} {c : Array Value} {t : TypeId} {fr : Nat × Nat} (h : w.heap[k]? = some (.cells c t fr)) (u : Value) :
  (w.setCell ⟨k, i, none⟩ u).heap[k]? = some (.cells (c.setIfInBounds i u) t fr) := by
 simp [World.setCell, Array.getElem?_modify, h]
section
variable {H : Type} {enc : TypeId × Value → H} {P : Program} {w : World}
theorem Rep.arg {α : Type} [Rep α] {T : TypeId} {v : Value} {d : DataW H} {p : List MemPlace} {b : Nat} (ht : Rep.Ty α P T) (hok : Value.okWide P w .any b T v)
  (h : DataW.Trod enc P w 0 (fun _ => true) true T v d p) (hz : (d.weights P T).all (· ≤ reachBytes) = true) : ∃ (a : α) (cs : List Value), v = Rep.box α cs ∧ Rep.is w w.heap.size a cs := by
 obtain ⟨fuel, hf⟩ := h
 obtain ⟨a, ha⟩ := Rep.opens ht hf hz
 exact ⟨a, _, Rep.okBox ht hok, ha⟩
def Args (w : World) (B : Nat) : (αs : List ((α : Type) × Rep α)) → List Value → Prop
 | [], vs => vs = []
 | ⟨α, _⟩ :: r, vs => ∃ (a : α) (cs : List Value) (vs' : List Value), vs = Rep.box α cs :: vs' ∧ Rep.is w B a cs ∧ Args w B r vs'
def Tys (P : Program) : (αs : List ((α : Type) × Rep α)) → List TypeId → Prop
 | [], ts => ts = []
 | ⟨α, _⟩ :: r, ts => ∃ t ts', ts = t :: ts' ∧ Rep.Ty α P t ∧ Tys P r ts'
theorem args_open : ∀ {αs : List ((α : Type) × Rep α)} {ts : List TypeId} {vs : List Value} {ds : List (DataW H)} {p : List MemPlace} {b : Nat}, Tys P αs ts → DataW.TrodAll enc P w 0 (fun _ => true) true ts vs ds p →
  (∀ (j : Nat) (t : TypeId) (v : Value), ts[j]? = some t → vs[j]? = some v → Value.okWide P w .any b t v) → (DataW.weightsEach P ts ds).all (· ≤ reachBytes) = true → Args w w.heap.size αs vs
 | [], ts, vs, ds, p, b, ht, hA, _, _ => by
  have : ts = [] := ht
  subst this
  obtain ⟨rfl, _, _⟩ := trodAll_nil hA
  rfl
 | ⟨α, inst⟩ :: r, ts, vs, ds, p, b, ht, hA, hok, hz => by
  obtain ⟨t, ts', rfl, hty, hr⟩ := ht
  obtain ⟨v, vs', d, ds', p, q, rfl, rfl, rfl, hd, hrest⟩ := trodAll_cons hA
  obtain ⟨hz1, hz2⟩ := weightsEach_cons hz
  obtain ⟨a, cs, hv, ha⟩ := Rep.arg hty (hok 0 t v rfl rfl) hd hz1
  refine ⟨a, cs, vs', by rw [hv], ha, args_open hr hrest (fun j t' v' h1 h2 => hok (j + 1) t' v' (by simpa using h1) (by simpa using h2)) hz2⟩
theorem trodAll_below {W W' : World} (hl : laidOutB P = true) (hb : Below W.heap.size W W') : ∀ {ts : List TypeId} {vs : List Value} {ds : List (DataW H)} {p : List MemPlace},
  (∀ t ∈ ts, P.readableRec t = true ∧ t < P.types.size) → DataW.TrodAll enc P W 0 (fun _ => true) true ts vs ds p → (∀ x ∈ p, x.block < W.heap.size) → DataW.TrodAll enc P W' 0 (fun b => decide (b < W.heap.size)) true ts vs ds p
 | [], vs, ds, p, _, h, _ => by
  obtain ⟨rfl, rfl, rfl⟩ := trodAll_nil h
  rfl
 | t :: ts, vs, ds, p, ht, h, hlt => by
  obtain ⟨v, vs', d, ds', p1, q1, rfl, rfl, rfl, hd, hrest⟩ := trodAll_cons h
  refine ⟨p1, q1, Below.trod hl (ht t (by simp)).1 (ht t (by simp)).2 hd hb (fun x hx => hlt x (by simp [hx])), trodAll_below hl hb (fun t' h' => ht t' (by simp [h'])) hrest (fun x hx => hlt x (by simp [hx])), rfl⟩
end
theorem lifted {H : Type} {enc : TypeId × Value → H} {C : Checked} {os : Os} {f : FuncId} {fn : Func} {s : ChangeSpec} {tb : TypeId} {αs : List ((α : Type) × Rep α)}
  (own : ownKnob C.prog.godebug = none) (laid : laidOutB C.prog = true) (started : os.Started) (noInit : C.prog.inits.idxOf? f = none) (hfn : C.prog.funcs[f]? = some fn)
  (hpar : ∀ t ∈ fn.params.toList, C.prog.readableRec t = true ∧ t < C.prog.types.size) (htys : Tys C.prog αs fn.params.toList)
  (hres : fn.resultTypes = #[tb]) (htb : C.prog.underlying tb = some .bool)
  (hv : s.vars = []) (hs : ∀ ds : List (DataW H), ds.length = fn.params.size → s.fn H (ds ++ []) = { results := [.lit (.bool true)], args := ds })
  (witness : ∃ (w : World) (tape : Tape) (i : Input), w.os = os ∧ (w.forCall tape i).Shaped C.prog ∧ i.vars = [] ∧ Input.okWide C.prog (w.forCall tape i) .any w.heap.size f i ∧
   s.pre6 enc C.prog fn [] false (w.forCall tape i).memory i.args ∧ ({} : Assume).holds C.prog (lone (Frame.enter C.prog f i.args .normal) [] (w.forCall tape i)))
  (walk : ∀ (W : World) (args : Array Value), Args W W.heap.size αs args.toList → Calls C.prog f args W fun e W' => e = .returned (.bool true) ∧ Below W.heap.size W W') :
  ReturnsInHanded {} C os f .any (s.pre6 enc C.prog fn [] false) (s.post enc C.prog fn false true false false) := by
 refine returnsInHanded_of_change_sized own started noInit hfn witness ?_
 intro W base args ds gs before hval hW _ hz _
 have hW' := hW
 obtain ⟨p, q, hA, hV, rfl, hfz, hnd⟩ := hW
 rw [hv] at hV
 obtain ⟨rfl, rfl⟩ := trodVars_none hV
 have hz' : (DataW.weightsEach C.prog fn.params.toList ds).all (· ≤ reachBytes) = true := by
  have e : s.plain.varTypes C.prog = [] := by unfold ChangeSpec.plain DataSpec.varTypes; simp [hv]
  simpa [e] using hz
 have hlen : ds.length = fn.params.size := by
  have : ∀ {ts : List TypeId} {vs : List Value} {ds : List (DataW H)} {p : List MemPlace}, DataW.TrodAll enc C.prog W 0 (fun _ => true) true ts vs ds p → ds.length = ts.length := by
   intro ts
   induction ts with
   | nil => intro vs ds p h; obtain ⟨_, rfl, _⟩ := trodAll_nil h; rfl
   | cons t ts ih => intro vs ds p h; obtain ⟨v, vs', d, ds', p1, q1, rfl, rfl, rfl, hd, hrest⟩ := trodAll_cons h; simp [ih hrest]
  simpa using this hA
 refine (walk W args (args_open htys hA (fun j t v h1 h2 => hval j t v (by simpa using h1) (by simpa using h2)) hz')).mono fun e W' ⟨he, hb⟩ => ?_
 refine ⟨_, he, ds, [], p ++ [], [], p, [], hW', ?_, ?_, ?_, hb.frame _, (fun h => by cases h)⟩
 ·rw [hs ds hlen, hres]
  exact trodAll_mk1 (shut_bool htb true)
 ·rw [hs ds hlen]
  exact trodAll_below laid hb hpar hA (fun x hx => hW'.lt x (by simpa using hx))
 ·rw [hs ds hlen, hv]; rfl
end Go.Rp
