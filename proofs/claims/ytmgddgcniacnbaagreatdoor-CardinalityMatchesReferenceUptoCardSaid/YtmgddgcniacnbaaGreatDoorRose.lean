/- How recursive structs lie in memory: a struct with one field that is a slice of its own kind. -/
import Derived.Test.YtmgddgcniacnbaaGreatDoorA2
namespace Go.Rp
open Go.RowKit Go.ChangeShapes Go.WideShapes

inductive Rose (α β : Type) where
 | mk (pre : α) (kids : List (Rose α β)) (post : β)

class FB (α : Type) [Flds α] : Prop where
 fit : ∀ {P : Program} {fs : List Field} {off : Nat}, Flds.FTy α P fs off → ∀ f ∈ fs, f.offset + P.cellsOf f.type ≤ off + Flds.n α
instance : FB Unit where
 fit h f hf := by
  have h : _ = _ := h
  subst h; cases hf
instance {α β : Type} [Rep α] [Flds β] [FB β] : FB (α × β) where
 fit h f hf := by
  obtain ⟨g, r, rfl, h1, h2, h3⟩ := h
  show f.offset + _ ≤ _ + (Rep.n α + Flds.n β)
  rcases List.mem_cons.1 hf with rfl | hf
  ·rw [h1, Rep.ty_cells h2]; omega
  ·have := FB.fit h3 f hf
   omega

theorem slice_opens {γ : Type} {p : γ → List Value → Prop} {k by_ : Nat} {H : Type} {enc : TypeId × Value → H} {P : Program} {w : World} {fuel : Nat} {T e : TypeId} {cs : List Value} {x : DataW H × List MemPlace}
  (hu : P.underlying T = some (.slice e)) (hce : P.cellsOf e = k) (hbe : by_ ≤ P.bytesOf e) (hn : 0 < k)
  (hel : ∀ n, n < fuel → ∀ {cs : List Value} {x : DataW H × List MemPlace}, DataW.trod enc P w 0 (fun _ => true) true n e cs = some x → (x.1.weights P e).all (· ≤ reachBytes) = true → ∃ y, p y cs)
  (h : DataW.trod enc P w 0 (fun _ => true) true fuel T cs = some x) (hz : (x.1.weights P T).all (· ≤ reachBytes) = true) :
  ∃ (ys : List γ) (A : Option Addr) (cap : Nat), cs = [.slice A ys.length cap] ∧ ys.length ≤ cap ∧ cap ≤ maxLen ∧ ys.length * by_ ≤ reach ∧ (A = none → cap = 0) ∧
   ∀ i (h : i < ys.length), ∃ b off es, A = some ⟨b, off, none⟩ ∧ b < w.heap.size ∧ p ys[i] es ∧ ∀ j, j < k → w.cell? ⟨b, off + i * k + j, none⟩ = es[j]? := by
 rcases DataW.trod_slice hu h with ⟨rfl, rfl⟩ | ⟨a, len, cap, elems, rest, n, hfn, rfl, rfl, _, hl, hm, hlen, hels, hsp, _⟩
 ·exact ⟨[], none, 0, rfl, Nat.le_refl _, Nat.zero_le _, by simp, fun _ => rfl, fun i hi => by simp at hi⟩
 ·have hrest := hsp rfl
  simp only [DataW.weights, hu, List.length_map] at hz
  rw [List.all_cons, Bool.and_eq_true] at hz
  obtain ⟨hz1, hz2⟩ := hz
  obtain ⟨hz2, _⟩ := all_append hz2
  have hcap : cap * P.bytesOf e ≤ reachBytes := by
   have : elems.length + rest.length = cap := by omega
   rw [this] at hz1; simpa using hz1
  have each : ∀ i, i < len → ∃ y : γ, ∃ b off es, a = ⟨b, off, none⟩ ∧ b < w.heap.size ∧ p y es ∧ ∀ j, j < k → w.cell? ⟨b, off + i * k + j, none⟩ = es[j]? := by
   intro i hi
   have h1 := hels i hi
   have hi' : i < elems.length := by omega
   rw [List.getElem?_eq_getElem hi'] at h1
   cases hc : w.cells? 0 (a.add (i * P.cellsOf e)) (P.cellsOf e) with
   | none => rw [hc] at h1; cases h1
   | some es =>
    rw [hc] at h1
    simp only [Option.bind_some] at h1
    obtain ⟨y, hy⟩ := hel n (by omega) h1 (weightsAll_mem hz2 _ (List.mem_map.2 ⟨_, List.getElem_mem hi', rfl⟩))
    have hcell := cells?_get hc
    have hes := cells?_length hc
    have h0 : ∃ u, w.cell? a = some u := by
     have h1 := hels 0 (by omega)
     have h0' : 0 < elems.length := by omega
     rw [List.getElem?_eq_getElem h0'] at h1
     cases hc0 : w.cells? 0 (a.add (0 * P.cellsOf e)) (P.cellsOf e) with
     | none => rw [hc0] at h1; cases h1
     | some es0 =>
      have hg := cells?_get hc0 0 (by rw [hce]; exact hn)
      have hl0 := cells?_length hc0
      simp only [Nat.zero_mul, Addr.add, if_true] at hg
      rw [hg]
      exact ⟨_, List.getElem?_eq_getElem (by rw [hl0, hce]; exact hn)⟩
    obtain ⟨u, hu0⟩ := h0
    have hs := spot_none_of_cell hu0
    have hblt := World.block_lt_of_cell? w a hu0
    obtain ⟨b, off, sp⟩ := a
    simp only at hs
    subst hs
    refine ⟨y, b, off, es, rfl, hblt, hy, fun j hj => ?_⟩
    have := hcell j (by rw [hce]; exact hj)
    rw [addr_add, hce] at this
    exact this
  obtain ⟨ys, hys, hp⟩ := choose_list each
  refine ⟨ys, some a, cap, by rw [hys], by omega, hm, ?_, (fun h => by cases h), fun i hi => ?_⟩
  ·have h1 : ys.length * by_ ≤ cap * P.bytesOf e := Nat.mul_le_mul (by omega) hbe
   unfold reachBytes at hcap
   unfold reach; omega
  ·obtain ⟨b, off, es, rfl, h2, h3, h4⟩ := hp i hi
   exact ⟨b, off, es, rfl, h2, h3, h4⟩

section
variable {α β : Type} [Flds α] [Flds β]
def roseN (α β : Type) [Flds α] [Flds β] : Nat := Flds.n α + (1 + Flds.n β)
def roseB (α β : Type) [Flds α] [Flds β] : Nat := Flds.bytes α + (24 + Flds.bytes β)

mutual
def Rose.is (w : World) (B : Nat) : Rose α β → List Value → Prop
 | .mk a ks b, cs => ∃ (c1 c3 : List Value) (A : Option Addr) (cap : Nat), cs = c1 ++ .slice A ks.length cap :: c3 ∧ Flds.is w B a c1 ∧ Flds.is w B b c3 ∧ ks.length ≤ cap ∧ cap ≤ maxLen ∧ ks.length * roseB α β ≤ reach ∧ (A = none → cap = 0) ∧ Rose.isL w B A ks 0
def Rose.isL (w : World) (B : Nat) (A : Option Addr) : List (Rose α β) → Nat → Prop
 | [], _ => True
 | k :: ks, i => (∃ b off es, A = some ⟨b, off, none⟩ ∧ b < B ∧ Rose.is w B k es ∧ ∀ j, j < roseN α β → w.cell? ⟨b, off + i * roseN α β + j, none⟩ = es[j]?) ∧ Rose.isL w B A ks (i + 1)
end

theorem Rose.len {w : World} {B : Nat} : ∀ {a : Rose α β} {cs : List Value}, Rose.is w B a cs → cs.length = roseN α β
 | .mk a ks b, cs, h => by
  unfold Rose.is at h
  obtain ⟨c1, c3, A, cap, rfl, h1, h2, _⟩ := h
  simp only [List.length_append, List.length_cons, Flds.len h1, Flds.len h2, roseN]
  omega
theorem Rose.one {w : World} {B : Nat} : ∀ {a : Rose α β} {cs : List Value}, Rose.is w B a cs → ∀ u ∈ cs, u.oneCell' = true
 | .mk a ks b, cs, h, u, hu => by
  unfold Rose.is at h
  obtain ⟨c1, c3, A, cap, rfl, h1, h2, _⟩ := h
  rcases List.mem_append.1 hu with hu | hu
  ·exact Flds.one h1 u hu
  ·rcases List.mem_cons.1 hu with rfl | hu
   ·rfl
   ·exact Flds.one h2 u hu

mutual
theorem Rose.kept {w w' : World} {B : Nat} (hb : Below B w w') : ∀ {a : Rose α β} {cs : List Value}, Rose.is w B a cs → Rose.is w' B a cs
 | .mk a ks b, cs, h => by
  unfold Rose.is at h ⊢
  obtain ⟨c1, c3, A, cap, rfl, h1, h2, h3, h4, h5, h6, h7⟩ := h
  exact ⟨c1, c3, A, cap, rfl, Flds.below h1 hb, Flds.below h2 hb, h3, h4, h5, h6, Rose.keptL hb h7⟩
theorem Rose.keptL {w w' : World} {B : Nat} (hb : Below B w w') {A : Option Addr} : ∀ {ks : List (Rose α β)} {i : Nat}, Rose.isL w B A ks i → Rose.isL w' B A ks i
 | [], _, _ => by unfold Rose.isL; trivial
 | k :: ks, i, h => by
  unfold Rose.isL at h ⊢
  obtain ⟨⟨b, off, es, hA, hB, hk, hc⟩, h2⟩ := h
  exact ⟨⟨b, off, es, hA, hB, Rose.kept hb hk, fun j hj => (hb.cell (p := ⟨b, _, none⟩) hB).trans (hc j hj)⟩, Rose.keptL hb h2⟩
end
mutual
theorem Rose.mono {w : World} {B B' : Nat} (hb : B ≤ B') : ∀ {a : Rose α β} {cs : List Value}, Rose.is w B a cs → Rose.is w B' a cs
 | .mk a ks b, cs, h => by
  unfold Rose.is at h ⊢
  obtain ⟨c1, c3, A, cap, rfl, h1, h2, h3, h4, h5, h6, h7⟩ := h
  exact ⟨c1, c3, A, cap, rfl, Flds.mono h1 hb, Flds.mono h2 hb, h3, h4, h5, h6, Rose.monoL hb h7⟩
theorem Rose.monoL {w : World} {B B' : Nat} (hb : B ≤ B') {A : Option Addr} : ∀ {ks : List (Rose α β)} {i : Nat}, Rose.isL w B A ks i → Rose.isL w B' A ks i
 | [], _, _ => by unfold Rose.isL; trivial
 | k :: ks, i, h => by
  unfold Rose.isL at h ⊢
  obtain ⟨⟨b, off, es, hA, hB, hk, hc⟩, h2⟩ := h
  exact ⟨⟨b, off, es, hA, Nat.lt_of_lt_of_le hB hb, Rose.mono hb hk, hc⟩, Rose.monoL hb h2⟩
end

/-- the kids, one by one -/
theorem Rose.isL_of {w : World} {B : Nat} {A : Option Addr} : ∀ {ks : List (Rose α β)} {i : Nat}, (∀ k (h : k < ks.length), ∃ b off es, A = some ⟨b, off, none⟩ ∧ b < B ∧ Rose.is w B ks[k] es ∧ ∀ j, j < roseN α β → w.cell? ⟨b, off + (i + k) * roseN α β + j, none⟩ = es[j]?) → Rose.isL w B A ks i
 | [], _, _ => by unfold Rose.isL; trivial
 | k :: ks, i, h => by
  unfold Rose.isL
  refine ⟨by have h0 := h 0 (by simp); simp only [Nat.add_zero, List.getElem_cons_zero] at h0; exact h0, Rose.isL_of fun q hq => ?_⟩
  have := h (q + 1) (by simpa using hq)
  have e : i + 1 + q = i + (q + 1) := by omega
  rw [e]
  simpa using this
theorem Rose.isL_get {w : World} {B : Nat} {A : Option Addr} : ∀ {ks : List (Rose α β)} {i : Nat}, Rose.isL w B A ks i → ∀ k (h : k < ks.length), ∃ b off es, A = some ⟨b, off, none⟩ ∧ b < B ∧ Rose.is w B ks[k] es ∧ ∀ j, j < roseN α β → w.cell? ⟨b, off + (i + k) * roseN α β + j, none⟩ = es[j]?
 | [], _, _, k, h => by simp at h
 | x :: ks, i, h, 0, _ => by
  unfold Rose.isL at h
  simpa using h.1
 | x :: ks, i, h, k + 1, hk => by
  unfold Rose.isL at h
  have := Rose.isL_get h.2 k (by simpa using hk)
  have e : i + 1 + k = i + (k + 1) := by omega
  rw [e] at this
  simpa using this

def roseTy (α β : Type) [Flds α] [Flds β] (P : Program) (T : TypeId) : Prop :=
 ∃ (fs : Array Field) (fa fb : List Field) (f : Field), P.underlying T = some (.struct fs) ∧ P.cellsOf T = roseN α β ∧ roseB α β ≤ P.bytesOf T ∧ fs.toList = fa ++ f :: fb ∧ Flds.FTy α P fa 0 ∧ f.offset = Flds.n α ∧
  P.underlying f.type = some (.slice T) ∧ P.cellsOf f.type = 1 ∧ Flds.FTy β P fb (Flds.n α + 1)

theorem weightsEach_append {H : Type} {P : Program} : ∀ {ts us : List TypeId} {ds es : List (DataW H)}, ds.length = ts.length → (DataW.weightsEach P (ts ++ us) (ds ++ es)).all (· ≤ reachBytes) = true →
  (DataW.weightsEach P ts ds).all (· ≤ reachBytes) = true ∧ (DataW.weightsEach P us es).all (· ≤ reachBytes) = true
 | [], us, [], es, _, h => ⟨by simp [DataW.weightsEach], by simpa using h⟩
 | t :: ts, us, d :: ds, es, hl, h => by
  simp only [List.cons_append] at h
  obtain ⟨h1, h2⟩ := weightsEach_cons h
  obtain ⟨h3, h4⟩ := weightsEach_append (by simpa using hl) h2
  refine ⟨?_, h4⟩
  simp only [DataW.weightsEach, List.all_append, Bool.and_eq_true]
  exact ⟨h1, h3⟩

theorem Rose.opens [FB α] {H : Type} {enc : TypeId × Value → H} {P : Program} {w : World} {T : TypeId} (ht : roseTy α β P T) : ∀ (fuel : Nat) {cs : List Value} {x : DataW H × List MemPlace},
  DataW.trod enc P w 0 (fun _ => true) true fuel T cs = some x → (x.1.weights P T).all (· ≤ reachBytes) = true → ∃ a : Rose α β, Rose.is w w.heap.size a cs := by
 obtain ⟨fs, fa, fb, f, hu, hcT, hbT, hfs, hfa, hof, hsl, hc1, hfb⟩ := ht
 intro fuel
 induction fuel using Nat.strongRecOn with
 | _ fuel ih =>
 intro cs x h hz
 obtain ⟨xs, n, hn, rfl, hl, hlen, hx⟩ := DataW.trod_struct hu h
 simp only [DataW.weights, hu] at hz
 rw [hfs] at hz
 have hxl : xs.length = fa.length + (1 + fb.length) := by
  have : xs.length = fs.toList.length := by simpa using hlen
  rw [this, hfs]; simp; omega
 have hcl : cs.length = roseN α β := by omega
 have hgf : ∀ (i : Nat) (g : Field), fs.toList[i]? = some g → DataW.trod enc P w 0 (fun _ => true) true n g.type ((cs.drop g.offset).take (P.cellsOf g.type)) = xs[i]? := fun i g hg => hx i g (by simpa using hg)
 rw [hfs] at hgf
 simp only [List.map_append, List.map_cons] at hz
 have hsplit : xs = xs.take fa.length ++ xs.drop fa.length := (List.take_append_drop _ _).symm
 have hza : (DataW.weightsEach P (fa.map (·.type)) ((xs.take fa.length).map (·.1))).all (· ≤ reachBytes) = true ∧ (DataW.weightsEach P (f.type :: fb.map (·.type)) ((xs.drop fa.length).map (·.1))).all (· ≤ reachBytes) = true := by
  refine weightsEach_append (by simp; omega) ?_
  rw [← List.map_append, List.take_append_drop]
  exact hz
 obtain ⟨hz1, hz2⟩ := hza
 have hNa : Flds.n α ≤ cs.length := by rw [hcl]; unfold roseN; omega
 obtain ⟨a, ha⟩ := Flds.opens (α := α) (cs := cs.take (Flds.n α)) (xs := xs.take fa.length) (fuel := n) hfa (by rw [List.length_take]; omega) (by rw [List.length_take]; omega)
  (fun i g hg => by
   have hi : i < fa.length := by
    rcases Nat.lt_or_ge i fa.length with h | h
    ·exact h
    ·rw [List.getElem?_eq_none h] at hg; cases hg
   have hfit := FB.fit hfa g (List.mem_of_getElem? hg)
   have e : ((cs.take (Flds.n α)).drop g.offset).take (P.cellsOf g.type) = (cs.drop g.offset).take (P.cellsOf g.type) := by
    rw [List.drop_take, List.take_take, Nat.min_eq_left (by omega)]
   rw [e, List.getElem?_take, if_pos hi]
   exact hgf i g (by rw [List.getElem?_append_left hi]; exact hg)) hz1
 cases hxd : xs.drop fa.length with
 | nil =>
  have := congrArg List.length hxd
  rw [List.length_drop] at this
  simp at this; omega
 | cons y ys =>
  rw [hxd] at hz2
  simp only [List.map_cons] at hz2
  obtain ⟨hz2, hz3⟩ := weightsEach_cons hz2
  have hxi : ∀ i, xs[fa.length + i]? = (y :: ys)[i]? := fun i => by rw [← hxd, List.getElem?_drop]
  have hy := hgf fa.length f (by simp)
  have e0 : xs[fa.length]? = some y := by simpa using hxi 0
  rw [e0, hof, hc1] at hy
  obtain ⟨ks, A, cap, hk1, hk2, hk3, hk4, hk5, hk6⟩ := slice_opens (p := fun (a : Rose α β) cs => Rose.is w w.heap.size a cs) hsl hcT hbT (by unfold roseN; omega) (fun m hm _ _ h1 h2 => ih m (by omega) h1 h2) hy hz2
  have hysl : ys.length = fb.length := by
   have := congrArg List.length hxd
   rw [List.length_drop] at this
   simp at this; omega
  obtain ⟨b, hb⟩ := Flds.opens (α := β) (cs := cs) (xs := ys) (fuel := n) hfb (by simpa using hysl) (by rw [hcl]; unfold roseN; omega)
   (fun i g hg => by
    have h1 := hgf (fa.length + (i + 1)) g (by rw [List.getElem?_append_right (by omega)]; simpa using hg)
    rw [h1, hxi]; rfl) hz3
  refine ⟨.mk a ks b, ?_⟩
  unfold Rose.is
  refine ⟨cs.take (Flds.n α), cs.drop (Flds.n α + 1), A, cap, ?_, by simpa using ha, hb, hk2, hk3, hk4, hk5, Rose.isL_of fun k hk => ?_⟩
  ·have e2 : cs.drop (Flds.n α) = Value.slice A ks.length cap :: cs.drop (Flds.n α + 1) := by
    have e3 : cs.drop (Flds.n α) = (cs.drop (Flds.n α)).take 1 ++ (cs.drop (Flds.n α)).drop 1 := (List.take_append_drop _ _).symm
    rw [e3, hk1, List.drop_drop]; rfl
   rw [← e2, List.take_append_drop]
  ·rw [Nat.zero_add]
   exact hk6 k hk

instance [FB α] : Rep (Rose α β) where
 n := roseN α β
 bytes := roseB α β
 Ty P T := roseTy α β P T
 is w B a cs := Rose.is w B a cs
 len h := Rose.len h
 one h := Rose.one h
 ty_cells h := by obtain ⟨_, _, _, _, _, h, _⟩ := h; exact h
 ty_bytes h := by obtain ⟨_, _, _, _, _, _, h, _⟩ := h; exact h
 below h hb := Rose.kept hb h
 mono h hb := Rose.mono hb h
 box cs := .agg cs.toArray
 okBox ht h := by
  obtain ⟨fs, _, _, _, hu, _⟩ := ht
  simp only [Value.okWide, hu] at h
  obtain ⟨cs, rfl, _⟩ := h
  simp [Value.cells]
 opens ht h hz := Rose.opens ht _ h hz

theorem Rose.is_list [FB α] {w : World} {B : Nat} {a : α} {ks : List (Rose α β)} {b : β} {cs : List Value} (h : Rose.is w B (.mk a ks b) cs) :
  ∃ c1 c2 c3, cs = c1 ++ (c2 :: c3) ∧ Flds.is w B a c1 ∧ Rep.is w B ks [c2] ∧ Flds.is w B b c3 := by
 unfold Rose.is at h
 obtain ⟨c1, c3, A, cap, rfl, h1, h2, h3, h4, h5, h6, h7⟩ := h
 refine ⟨c1, _, c3, rfl, h1, ⟨A, cap, rfl, h3, h4, h5, h6, fun i hi => ?_⟩, h2⟩
 have := Rose.isL_get h7 i hi
 rw [Nat.zero_add] at this
 exact this
end
end Go.Rp

namespace Go.Ab
open Go.RowKit Go.Rp
variable {α β : Type} [Flds α] [Flds β] [EncF α] [EncF β]
mutual
def roseC : Rose α β → List D
 | .mk a ks b => EncF.eC a ++ (.sl (roseCs ks) :: EncF.eC b)
def roseCs : List (Rose α β) → List (List D)
 | [] => []
 | k :: ks => roseC k :: roseCs ks
end
theorem roseCs_eq (ks : List (Rose α β)) : roseCs ks = ks.map roseC := by
 induction ks with
 | nil => simp [roseCs]
 | cons k ks ih => simp [roseCs, ih]

/-- a slice whose elements are known to be sound -/
theorem list_sound_of {γ : Type} [Rep γ] {g : γ → List D} {w : World} {B : Nat} {xs : List γ} {v : Value} (hg : ∀ x ∈ xs, ∀ cs, Rep.is w B x cs → RDs w (· < B) (g x) cs) (h : Rep.is w B xs [v]) : RD w (· < B) (.sl (xs.map g)) v := by
 obtain ⟨A, cap, hv, h1, h2, h3, h4, h5⟩ := h
 simp only [List.cons.injEq, and_true] at hv
 subst hv
 refine ⟨A, cap, by rw [List.length_map], by rw [List.length_map]; exact h1, h2, h4, fun hne => ?_⟩
 have hpos : 0 < xs.length := by
  cases xs with
  | nil => exact absurd rfl hne
  | cons x r => simp
 obtain ⟨b, off, es0, rfl, hB, hes0, hc0⟩ := h5 0 hpos
 have build : ∀ k, k ≤ xs.length → ∃ flat, RDe w (· < B) ((xs.drop (xs.length - k)).map g) flat ∧ w.rangeAt b (off + (xs.length - k) * Rep.n γ) flat ∧ flat.length = k * Rep.n γ := by
  intro k
  induction k with
  | zero => intro _; exact ⟨[], by simp [RDe], fun j v hv => by simp at hv, by simp⟩
  | succ k ih =>
   intro hk
   obtain ⟨flat, h6, h7, h8⟩ := ih (by omega)
   have hi : xs.length - (k + 1) < xs.length := by omega
   obtain ⟨b', off', es, hA, _, hes, hc⟩ := h5 _ hi
   injection hA with hA
   injection hA with e1 e2
   subst e1; subst e2
   have hd : xs.drop (xs.length - (k + 1)) = xs[xs.length - (k + 1)] :: xs.drop (xs.length - k) := by
    rw [List.drop_eq_getElem_cons hi]
    congr 2
    omega
   have hel := Rep.len hes
   refine ⟨es ++ flat, ?_, ?_, ?_⟩
   ·rw [hd, List.map_cons]
    exact ⟨es, flat, rfl, hg _ (List.getElem_mem hi) _ hes, h6⟩
   ·intro j v hv
    rcases Nat.lt_or_ge j es.length with hj | hj
    ·rw [List.getElem?_append_left hj] at hv
     rw [hc j (by omega)]; exact hv
    ·rw [List.getElem?_append_right hj] at hv
     have := h7 _ v hv
     rw [hel] at this
     have e : off + (xs.length - k) * Rep.n γ + (j - Rep.n γ) = off + (xs.length - (k + 1)) * Rep.n γ + j := by
      have : xs.length - k = (xs.length - (k + 1)) + 1 := by omega
      rw [this, Nat.add_mul, Nat.one_mul]; omega
     rw [e] at this
     exact this
   ·rw [List.length_append, hel, h8, Nat.add_mul, Nat.one_mul, Nat.add_comm]
 obtain ⟨flat, h6, h7, h8⟩ := build xs.length (Nat.le_refl _)
 rw [Nat.sub_self] at h6 h7
 rw [Nat.zero_mul, Nat.add_zero] at h7
 refine ⟨b, off, Rep.n γ, flat, rfl, hB, fun e he => ?_, by simpa using h6, h7⟩
 obtain ⟨x, hx, rfl⟩ := List.mem_map.1 he
 obtain ⟨i, hi, rfl⟩ := List.getElem_of_mem hx
 obtain ⟨_, _, es, _, _, hes, _⟩ := h5 i hi
 rw [← RDs_length (hg _ hx _ hes), Rep.len hes]

theorem roseC_sound [FB α] {w : World} {B : Nat} : ∀ (r : Rose α β) (cs : List Value), Rose.is w B r cs → RDs w (· < B) (roseC r) cs
 | .mk a ks b, cs, h => by
  obtain ⟨c1, c2, c3, rfl, h1, h2, h3⟩ := Rose.is_list h
  unfold roseC
  rw [roseCs_eq]
  refine RDs_append (EncF.soundC h1) ⟨_, _, rfl, list_sound_of (fun x hx cs hc => ?_) h2, EncF.soundC h3⟩
  have := List.sizeOf_lt_of_mem hx
  exact roseC_sound x cs hc
termination_by r => SizeOf.sizeOf r
decreasing_by
 simp
 omega

instance [FB α] : Enc (Rose α β) where
 eC := roseC
 eV a := .agg ((roseC a).map V.d)
 soundC h := roseC_sound _ _ h
 soundV hz h := ⟨_, rfl, fun c hc => by obtain ⟨x, _, rfl⟩ := List.mem_map.1 hc; rfl, RVs_d.2 (RDs.keep (fun _ _ => rfl) hz _ _ (roseC_sound _ _ h))⟩
end Go.Ab
