/- Functional programs: contracts of functions that change what they are lent. Functional programs: maps as lists of pairs. Plain lemmas on functional programs: loops over lists and ranges. Functional programs: arrays of many cells as flat lists. Functional programs: contracts of functions that hand back a row of their own. Functional programs: maps as data, strings, functions without captured variables. The abstract machine: room made ahead by an append of zeros to nil; the capacity of nil. Functional programs: cells of maps, rooms, bytes of strings. The abstract machine: ranges over slices.Backward's function. The abstract machine: the rule of a range over slices.Backward's function. Contracts of the library as contracts of functional programs. The abstract machine: nil slices among a row's elements seen as empty ones. The abstract machine: rows within own rows. The abstract machine: maps whose values are rows of their own. The abstract machine: a row goes back into the map. -/
import Derived.Test.YtimkkjiplioohaaGreatDoorA3
import Derived.Lib.AppendZeros
import Derived.RangeFuncSeq
import Derived.RangeFuncBox
import Derived.RangeFuncLeaves
import Derived.Shelf.Abstract
import Derived.WalkKit
import Derived.OwnWalkIn
import Derived.TacticsInMore
import Derived.LoopNIn
import Derived.LoopIn
section
namespace Go.Ab
open Go.RowKit

def FunM (P : Program) (f : FuncId) (args : List V) (h0 : List (Nat × Option Blk)) (rts : List Nat) (v : V) (h1 : List (Nat × Blk)) : Prop :=
 Ctr P f args (hlook h0) rts (fun r H => r = v ∧ ∀ q ∈ h1, H q.1 = some q.2)
def FinF (P : Program) (fn : Func) (v : V) (h1 : List (Nat × Blk)) (e : Exit) (S : St) : Prop := (e = .normal ∨ e = .ret) ∧ outV (tyOf P) fn.results.toList S = some v ∧ ∀ q ∈ h1, S.hp q.1 = some q.2

theorem FinF.ret {P : Program} {fn : Func} {v : V} {h1 : List (Nat × Blk)} {S : St} (h2 : outV (tyOf P) fn.results.toList S = some v) (h3 : ∀ q ∈ h1, S.hp q.1 = some q.2) : FinF P fn v h1 .ret S := ⟨.inr rfl, h2, h3⟩
theorem FinF.normal {P : Program} {fn : Func} {v : V} {h1 : List (Nat × Blk)} {S : St} (h2 : outV (tyOf P) fn.results.toList S = some v) (h3 : ∀ q ∈ h1, S.hp q.1 = some q.2) : FinF P fn v h1 .normal S := ⟨.inl rfl, h2, h3⟩

theorem FunM.enter {P : Program} {f : FuncId} {fn : Func} {c : Code} {args : List V} {h0 : List (Nat × Option Blk)} {rts : List Nat} {v : V} {h1 : List (Nat × Blk)} (nt : Nat) (l : List (Nat × V)) (hf : P.funcs[f]? = some fn) (hb : fn.body = some c) (hle : args.length ≤ fn.ntmps) (hn : fn.ntmps = nt) (hl : enterL args 0 = l)
  (h : AW P c (mk nt rts l h0) (FinF P fn v h1)) : FunM P f args h0 rts v h1 := by
 subst hn; subst hl
 exact Ctr.of hf hb hle (h.mono fun e S ⟨h1, h2, h3⟩ => ⟨h1, v, h2, rfl, h3⟩)

end Go.Ab
end
section
namespace Go.Ab
open Go.RowKit

/-! ### own boxes become data -/
def V.lift (g : V → V) : V → V
 | .agg cs => if (cs.map g).all V.cell = true then .agg (cs.map g) else .junk
 | .tup cs => .tup (cs.map g)
 | .fn f cs => .fn f (cs.map g)
 | v => g v
def Blk.lift (g : V → V) : Blk → Option Blk
 | .box cs => if (cs.map g).all V.cell = true then some (.box (cs.map g)) else none
 | b => some b
def liftL (g : V → V) : List (Nat × V) → List (Nat × V)
 | [] => []
 | (k, v) :: r => (k, v.lift g) :: liftL g r
def liftH (id : Nat) (g : V → V) : List (Nat × Option Blk) → List (Nat × Option Blk)
 | [] => []
 | (k, b) :: r => (k, if k = id then none else b.bind (Blk.lift g)) :: liftH id g r
theorem RV.lift {E E' : Env} {w : World} {g : V → V} (hg : ∀ c v, RV E w c v → RV E' w (g c) v) : ∀ (c : V) (v : Value), RV E w c v → RV E' w (c.lift g) v := by
 intro c v h
 cases c with
 | agg cs =>
  show RV E' w (if _ then _ else _) v
  split
  ·rename_i hall
   obtain ⟨vs, h1, h2, h3⟩ := h
   exact ⟨vs, h1, List.all_eq_true.1 hall, RVs.frz hg h3⟩
  ·trivial
 | tup cs =>
  obtain ⟨vs, h1, h3⟩ := h
  exact ⟨vs, h1, RVs.frz hg h3⟩
 | fn f cs =>
  obtain ⟨vs, h1, h3⟩ := h
  exact ⟨vs, h1, RVs.frz hg h3⟩
 | ref i off len => exact hg _ _ h
 | d x => exact hg _ _ h
 | ptr id i off => exact hg _ _ h
 | mref id => exact hg _ _ h
 | dx es => exact hg _ _ h
 | hole => exact hg _ _ h
 | junk => exact hg _ _ h

def frzP (id : Nat) (ds : List D) : V → V
 | .ptr i k off => if i = id then (if k = 0 then .d (.pim (ds.drop off)) else .junk) else .ptr i k off
 | v => v
attribute [simp] V.lift Blk.lift liftL liftH frzP

/-- a part of a list taken out -/
def delL {α : Type} (xs : List α) (i j : Int) : Option (List α) := if 0 ≤ i ∧ i < j ∧ j ≤ xs.length then some (xs.take i.toNat ++ xs.drop j.toNat) else none
section
variable {κ α : Type} [DecidableEq κ]
def mget (m : List (κ × α)) (k : κ) : Option α := (m.find? fun p => decide (p.1 = k)).map (·.2)
def mput (m : List (κ × α)) (k : κ) (v : α) : List (κ × α) := if (mget m k).isSome then m.map (fun p => if p.1 = k then (k, v) else p) else m ++ [(k, v)]
def mdel (m : List (κ × α)) (k : κ) : List (κ × α) := m.filter fun p => !decide (p.1 = k)
theorem mget_nil (k : κ) : mget ([] : List (κ × α)) k = none := rfl
theorem mget_cons (p : κ × α) (m : List (κ × α)) (k : κ) : mget (p :: m) k = if p.1 = k then some p.2 else mget m k := by
 by_cases h : p.1 = k <;> simp [mget, h]
theorem mget_append (m n : List (κ × α)) (k : κ) : mget (m ++ n) k = (mget m k).or (mget n k) := by
 induction m with
 | nil => simp [mget_nil]
 | cons p m ih =>
  rw [List.cons_append, mget_cons, mget_cons, ih]
  by_cases h : p.1 = k <;> simp [h]
theorem mget_put (m : List (κ × α)) (k k' : κ) (v : α) : mget (mput m k v) k' = if k = k' then some v else mget m k' := by
 unfold mput
 cases h : mget m k with
 | none =>
  simp only [Option.isSome_none, Bool.false_eq_true, if_false]
  rw [mget_append, mget_cons, mget_nil]
  by_cases hk : k = k'
  ·subst hk; simp [h]
  ·simp [hk]
 | some x =>
  simp only [Option.isSome_some, if_true]
  have : ∀ l : List (κ × α), mget (l.map fun p => if p.1 = k then (k, v) else p) k' = if k = k' then (mget l k').map (fun _ => v) else mget l k' := by
   intro l
   induction l with
   | nil => simp [mget_nil]
   | cons p l ih =>
    rw [List.map_cons, mget_cons, ih, mget_cons]
    by_cases h1 : p.1 = k
    ·subst h1
     by_cases h2 : p.1 = k'
     ·simp [h2]
     ·simp [h2]
    ·by_cases h2 : p.1 = k'
     ·have : ¬ k = k' := fun e => h1 (h2.trans e.symm)
      have h3 : ¬ k' = k := fun e => this e.symm
      simp [h2, this, h3]
     ·simp [h1, h2]
  rw [this]
  by_cases hk : k = k'
  ·subst hk; simp [h]
  ·simp [hk]
def encM (kf : κ → MKey) (vf : α → V) (m : List (κ × α)) : List (MKey × V) := m.map fun p => (kf p.1, vf p.2)
omit [DecidableEq κ] in
theorem encM_nil (kf : κ → MKey) (vf : α → V) : encM kf vf ([] : List (κ × α)) = [] := rfl
theorem klk_enc {kf : κ → MKey} (hi : ∀ a b, kf a = kf b → a = b) (vf : α → V) (m : List (κ × α)) (k : κ) : klk (encM kf vf m) (kf k) = (mget m k).map vf := by
 induction m with
 | nil => rfl
 | cons p m ih =>
  show klk ((kf p.1, vf p.2) :: encM kf vf m) (kf k) = _
  rw [klk_cons, mget_cons, ih]
  by_cases h : p.1 = k
  ·simp [h]
  ·have : ¬ kf p.1 = kf k := fun e => h (hi _ _ e)
   simp [h, this]
theorem kput_enc {kf : κ → MKey} (hi : ∀ a b, kf a = kf b → a = b) (vf : α → V) (m : List (κ × α)) (k : κ) (v : α) : kput (encM kf vf m) (kf k) (vf v) = encM kf vf (mput m k v) := by
 unfold kput mput
 rw [klk_enc hi, Option.isSome_map]
 split
 ·unfold encM
  rw [List.map_map, List.map_map]
  refine List.map_congr_left fun p _ => ?_
  simp only [Function.comp]
  by_cases h : p.1 = k
  ·simp [h]
  ·have : ¬ kf p.1 = kf k := fun e => h (hi _ _ e)
   simp [h, this]
 ·simp [encM]
def vI (k : IntKind) (n : Int) : V := .d (.lit (.int k n))
def vB (b : Bool) : V := .d (.lit (.bool b))
def vS (s : ByteArray) : V := .d (.lit (.string s))
theorem sk_inj (a b : ByteArray) (h : MKey.sk a = MKey.sk b) : a = b := by injection h
/-- a look-up -/
theorem Chain.lookE {q : Bool} {P : Program} {ops : Array Oper} {o : Oper} {l : List Oper} {S : St} {Q : St → Prop} {T : TypeId} {m i : Operand} {c : Bool} {ti tk te : TI} {kt et : TypeId} {id : Nat} {kd : TypeDesc} {kf : κ → MKey} {vf : α → V} (hi : ∀ a b, kf a = kf b → a = b) (mm : List (κ × α)) (k : κ) (z : α)
  (hw : wantedV ops S o = some true) (ho : o.op = .lookup T m i c) (hT : tyOf P T = some ti) (hd : ti.desc = .map kt et) (hk : tyOf P kt = some tk) (he : tyOf P et = some te) (hm : S.ev m = .mref id) (hH : S.hp id = some (.mp kd (encM kf vf mm))) (hkey : keyV (S.ev i) = some (kf k))
  (h1 : descEq tk.desc (kf k).desc = true) (h2 : descEq kd (kf k).desc = true) (hz : litV te.zero = vf z) (hc : (vf z).closed = true)
  (h : Chain q P ops l (S.put o.dst (if c then .tup [vf ((mget mm k).getD z), .d (.lit (.bool (mget mm k).isSome))] else vf ((mget mm k).getD z))) Q) : Chain q P ops (o :: l) S Q := by
 refine Chain.look hw ho (r := vf ((mget mm k).getD z)) (b := (mget mm k).isSome) ?_ h
 unfold lkV
 simp only [hT, hd, hk, he, hkey, hm, hH, h1, h2, hz, hc, and_self, if_true]
 rw [klk_enc hi]
 cases mget mm k <;> simp

theorem Chain.msetE {P : Program} {ops : Array Oper} {o : Oper} {l : List Oper} {S : St} {Q : St → Prop} {T : TypeId} {m i x : Operand} {ti tk : TI} {kt et : TypeId} {id : Nat} {kd : TypeDesc} {kf : κ → MKey} {vf : α → V} (hi : ∀ a b, kf a = kf b → a = b) (mm : List (κ × α)) (k : κ) (v : α)
  (hw : wantedV ops S o = some true) (ho : o.op = .mapUpdate T m i x ∨ o.op = .insert T m i x) (hT : tyOf P T = some ti) (hd : ti.desc = .map kt et) (hk : tyOf P kt = some tk) (hkd : tk.desc = kd) (hm : S.ev m = .mref id) (hH : S.hp id = some (.mp kd (encM kf vf mm))) (hkey : keyV (S.ev i) = some (kf k))
  (hkk : (kf k).desc = kd) (hx : S.ev x = vf v) (hc : (vf v).closed = true)
  (h : Chain false P ops l ((S.setH id (some (.mp kd (encM kf vf (mput mm k v))))).put o.dst (.tup [])) Q) : Chain false P ops (o :: l) S Q := by
 refine Chain.mset hw ho hT hd hk hkd hm hH hkey hkk hx hc ?_
 rw [kput_enc hi]
 exact h
end
end Go.Ab
end
section
namespace Go.Ab
open Go.RowKit

/-- the fuel that is enough for all loops -/
abbrev bigN (N : Nat) : Prop := 9223372036854775808 ≤ N

theorem idx_nat {α : Type} {xs : List α} {k : Nat} {x : α} (h : xs[k]? = some x) : idx xs (k : Int) = some x := by
 unfold idx
 rw [if_pos (by omega)]
 simpa using h
@[simp] theorem letv_eq {α β : Type} (x : α) (k : α → β) : letv x k = k x := rfl

/-- a run over a list, with an end ahead of time -/
def listFor {α σ ρ : Type} (body : Nat → α → σ → σ ⊕ ρ) (fin : σ → ρ) : List α → Nat → σ → ρ
 | [], _, s => fin s
 | x :: xs, k, s => match body k x s with
  | .inl s' => listFor body fin xs (k + 1) s'
  | .inr r => r

/-- without an end ahead of time: a fold -/
def foldI {α σ : Type} (f : Nat → α → σ → σ) : List α → Nat → σ → σ
 | [], _, s => s
 | x :: xs, k, s => foldI f xs (k + 1) (f k x s)
def optI : Option Nat → Int
 | some i => i
 | none => -1
end Go.Ab
end
section
namespace Go.Ab
open Go.RowKit

def dI (k : IntKind) (n : Int) : D := .lit (.int k n)
def dB (b : Bool) : D := .lit (.bool b)
def dS (s : ByteArray) : D := .lit (.string s)
@[simp] theorem comp_dI (k : IntKind) : V.d ∘ dI k = vI k := rfl
@[simp] theorem comp_dB : V.d ∘ dB = vB := rfl
@[simp] theorem comp_dS : V.d ∘ dS = vS := rfl
attribute [simp] vI vB vS dI dB dS

/-- a kind of cells -/
structure Scal {α : Type} (v : α → V) (d : α → D) : Prop where
 is : ∀ x, v x = .d (d x)
 lit : ∀ x, ∃ u, d x = .lit u
theorem sI (k : IntKind) : Scal (vI k) (dI k) := ⟨fun _ => rfl, fun _ => ⟨_, rfl⟩⟩
theorem sB : Scal vB dB := ⟨fun _ => rfl, fun _ => ⟨_, rfl⟩⟩
theorem sS : Scal vS dS := ⟨fun _ => rfl, fun _ => ⟨_, rfl⟩⟩
section
variable {α : Type} {v : α → V} {d : α → D}
theorem Scal.map (h : Scal v d) (xs : List α) : xs.map v = (xs.map d).map V.d := by
 rw [List.map_map]
 exact List.map_congr_left fun x _ => h.is x
theorem Scal.allCell (h : Scal v d) (xs : List α) : (xs.map v).all V.cell = true := by
 rw [List.all_map, List.all_eq_true]
 intro x _
 show (v x).cell = true
 rw [h.is]; rfl
theorem Scal.all' (h : Scal v d) (xs : List α) : xs.all (V.cell ∘ v) = true := by
 have := h.allCell xs
 rwa [List.all_map] at this
theorem Scal.hasL (h : Scal v d) (id : Nat) (xs : List α) : Ab.hasL id (xs.map v) = false := by
 rw [h.map]; exact hasL_d _
theorem Scal.killC (h : Scal v d) (id : Nat) : ∀ xs : List α, Ab.killC id (xs.map v) = xs.map v
 | [] => rfl
 | x :: xs => by
  show (if (v x).has id then V.hole else v x) :: Ab.killC id (xs.map v) = _
  have : (v x).has id = false := by rw [h.is]; rfl
  rw [h.killC id xs, if_neg (by simp [this])]
  rfl
theorem Scal.closedL (h : Scal v d) (xs : List α) : Ab.closedL (xs.map v) = true := by
 rw [h.map]; exact closedL_d _
theorem Scal.flatL (h : Scal v d) : ∀ xs : List α, Ab.flatL (xs.map v) = true
 | [] => rfl
 | x :: xs => by
  show ((v x).flat && Ab.flatL (xs.map v)) = true
  obtain ⟨u, hu⟩ := h.lit x
  rw [h.flatL xs, h.is, hu]
  rfl
theorem Scal.viewV (h : Scal v d) (H : Heap) (xs : List α) : Ab.viewV H (.agg (xs.map v)) = some (.agg (xs.map v)) := by
 rw [h.map]
 show (mapO (viewD H 2) ((xs.map d).map V.d)).map _ = _
 rw [mapO_viewD_d]
 rfl
theorem Scal.viewD (h : Scal v d) (H : Heap) (k : Nat) (xs : List α) : mapO (Ab.viewD H k) (xs.map v) = some (xs.map d) := by
 rw [h.map]; exact mapO_viewD_d _
theorem Scal.toDs (h : Scal v d) (xs : List α) : Ab.toDs (xs.map v) = some (xs.map d) := by
 induction xs with
 | nil => rfl
 | cons x xs ih =>
  show (match toD (v x), Ab.toDs (xs.map v) with | some x, some xs => some (x :: xs) | _, _ => none) = _
  rw [ih, h.is]
  rfl
theorem Scal.frz1 (h : Scal v d) (id : Nat) (es : List (List D)) (xs : List α) : (xs.map v).map (V.frz1 id es) = xs.map v := by
 rw [List.map_map]
 refine List.map_congr_left fun x _ => ?_
 show V.frz1 id es (v x) = v x
 rw [h.is]; rfl
theorem Scal.wk1 (h : Scal v d) (hn : ∀ x, d x ≠ .lit (.slice none 0 0)) (xs : List α) : (xs.map v).map V.wk1 = xs.map v := by
 rw [List.map_map]
 refine List.map_congr_left fun x _ => ?_
 show V.wk1 (v x) = v x
 rw [h.is]
 have := hn x
 show V.d (d x).wk = _
 unfold D.wk
 split
 ·rename_i e; exact absurd e this
 ·rfl
end
@[simp] theorem all_vI (k : IntKind) (xs : List Int) : xs.all (V.cell ∘ vI k) = true := (sI k).all' xs
@[simp] theorem all_vB (xs : List Bool) : xs.all (V.cell ∘ vB) = true := sB.all' xs
@[simp] theorem all_vS (xs : List ByteArray) : xs.all (V.cell ∘ vS) = true := sS.all' xs
@[simp] theorem hasL_vI (k : IntKind) (id : Nat) (xs : List Int) : hasL id (xs.map (vI k)) = false := (sI k).hasL id xs
@[simp] theorem hasL_vB (id : Nat) (xs : List Bool) : hasL id (xs.map vB) = false := sB.hasL id xs
@[simp] theorem hasL_vS (id : Nat) (xs : List ByteArray) : hasL id (xs.map vS) = false := sS.hasL id xs
@[simp] theorem killC_vI (k : IntKind) (id : Nat) (xs : List Int) : killC id (xs.map (vI k)) = xs.map (vI k) := (sI k).killC id xs
@[simp] theorem killC_vB (id : Nat) (xs : List Bool) : killC id (xs.map vB) = xs.map vB := sB.killC id xs
@[simp] theorem killC_vS (id : Nat) (xs : List ByteArray) : killC id (xs.map vS) = xs.map vS := sS.killC id xs
@[simp] theorem closedL_vI (k : IntKind) (xs : List Int) : closedL (xs.map (vI k)) = true := (sI k).closedL xs
@[simp] theorem closedL_vB (xs : List Bool) : closedL (xs.map vB) = true := sB.closedL xs
@[simp] theorem closedL_vS (xs : List ByteArray) : closedL (xs.map vS) = true := sS.closedL xs
@[simp] theorem flatL_vI (k : IntKind) (xs : List Int) : flatL (xs.map (vI k)) = true := (sI k).flatL xs
@[simp] theorem flatL_vB (xs : List Bool) : flatL (xs.map vB) = true := sB.flatL xs
@[simp] theorem flatL_vS (xs : List ByteArray) : flatL (xs.map vS) = true := sS.flatL xs
@[simp high] theorem viewV_vI (k : IntKind) (H : Heap) (xs : List Int) : viewV H (.agg (xs.map (vI k))) = some (.agg (xs.map (vI k))) := (sI k).viewV H xs
@[simp high] theorem viewV_vB (H : Heap) (xs : List Bool) : viewV H (.agg (xs.map vB)) = some (.agg (xs.map vB)) := sB.viewV H xs
@[simp high] theorem viewV_vS (H : Heap) (xs : List ByteArray) : viewV H (.agg (xs.map vS)) = some (.agg (xs.map vS)) := sS.viewV H xs
@[simp] theorem viewD_vI (k : IntKind) (H : Heap) (n : Nat) (xs : List Int) : mapO (viewD H n) (xs.map (vI k)) = some (xs.map (dI k)) := (sI k).viewD H n xs
@[simp] theorem viewD_vB (H : Heap) (n : Nat) (xs : List Bool) : mapO (viewD H n) (xs.map vB) = some (xs.map dB) := sB.viewD H n xs
@[simp] theorem viewD_vS (H : Heap) (n : Nat) (xs : List ByteArray) : mapO (viewD H n) (xs.map vS) = some (xs.map dS) := sS.viewD H n xs
@[simp] theorem frz1_vI (k : IntKind) (id : Nat) (es : List (List D)) : V.frz1 id es ∘ vI k = vI k := rfl
@[simp] theorem frz1_vB (id : Nat) (es : List (List D)) : V.frz1 id es ∘ vB = vB := rfl
@[simp] theorem frz1_vS (id : Nat) (es : List (List D)) : V.frz1 id es ∘ vS = vS := rfl
@[simp] theorem frzP_vI (k : IntKind) (id : Nat) (es : List D) : frzP id es ∘ vI k = vI k := rfl
@[simp] theorem frzP_vB (id : Nat) (es : List D) : frzP id es ∘ vB = vB := rfl
@[simp] theorem wk1_vI (k : IntKind) : V.wk1 ∘ vI k = vI k := rfl
@[simp] theorem wk1_vB : V.wk1 ∘ vB = vB := rfl
@[simp] theorem wk1_vS : V.wk1 ∘ vS = vS := rfl
attribute [simp] List.drop_eq_nil_of_le

/-! ### indices -/
/-- an index into an array -/
def arrI (i : Int) (n : Nat) : Option Nat := if 0 ≤ i ∧ i < n then some i.toNat else none
/-- a list of the array's length -/
def lenL {α : Type} (n : Nat) (xs : List α) : Option (List α) := if xs.length = n then some xs else none
/-- a part of an array -/
def subL {α : Type} (xs : List α) (o n : Nat) : Option (List α) := if o + n ≤ xs.length then some ((xs.drop o).take n) else none
/-- a cell is set -/
def setN {α : Type} (xs : List α) (o : Nat) (x : α) : Option (List α) := if o < xs.length then some (xs.set o x) else none
end Go.Ab
end
section
namespace Go.Ab
open Go.RowKit

/-- v names the row 0 -/
def FunO (P : Program) (f : FuncId) (args : List V) (v : V) (blk : Blk) : Prop := Fun P f args (fun r k => r.ren 0 = v ∧ k = some blk)
def FinO (P : Program) (fn : Func) (v : V) (blk : Blk) (e : Exit) (S : St) : Prop :=
 (e = .normal ∨ e = .ret) ∧ ∃ r, outV (tyOf P) fn.results.toList S = some r ∧ ∃ id T n es, r.only id = true ∧ S.hp id = some (.arr T n es) ∧ r.ren 0 = v ∧ blk = .arr T n es

theorem FinO.ret {P : Program} {fn : Func} {v : V} {blk : Blk} {S : St} (r : V) (id : Nat) {T n : Nat} {es : List (List D)} (h1 : outV (tyOf P) fn.results.toList S = some r) (h2 : r.only id = true) (h3 : S.hp id = some (.arr T n es)) (h4 : r.ren 0 = v) (h5 : blk = .arr T n es) : FinO P fn v blk .ret S :=
 ⟨.inr rfl, r, h1, id, T, n, es, h2, h3, h4, h5⟩

theorem FunO.enter {P : Program} {f : FuncId} {fn : Func} {c : Code} {args : List V} {v : V} {blk : Blk} (nt : Nat) (l : List (Nat × V)) (hf : P.funcs[f]? = some fn) (hb : fn.body = some c) (hle : args.length ≤ fn.ntmps) (hn : fn.ntmps = nt) (hl : enterL args 0 = l)
  (h : AW P c (mk nt [] l []) (FinO P fn v blk)) : FunO P f args v blk := by
 subst hn; subst hl
 exact Fun.fin hf hb hle (h.mono fun _ _ ⟨h1, r, h2, id, T, n, es, h3, h4, h5, h6⟩ => ⟨h1, r, h2, .inr ⟨id, T, n, es, h3, h4, h5, by rw [h6]⟩⟩)

mutual
theorem ren_ren {d e : Nat} : ∀ (c : V), (c.ren e).ren d = c.ren d
 | .d _ => rfl
 | .dx _ => rfl
 | .ref .. => rfl
 | .ptr .. => rfl
 | .mref _ => rfl
 | .hole => rfl
 | .junk => rfl
 | .agg cs => by simp only [V.ren]; rw [renL_renL cs]
 | .tup cs => by simp only [V.ren]; rw [renL_renL cs]
 | .fn f cs => by simp only [V.ren]; rw [renL_renL cs]
theorem renL_renL {d e : Nat} : ∀ (cs : List V), renL d (renL e cs) = renL d cs
 | [] => rfl
 | c :: cs => by simp only [renL]; rw [ren_ren c, renL_renL cs]
end

/-- a call that hands back a row of its own -/
theorem Chain.callO {P : Program} {ops : Array Oper} {o : Oper} {l : List Oper} {S : St} {Q' : St → Prop} {c : Call} {d : Nat} {f : FuncId} {caps args : List V} {v : V} {T n : Nat} {es : List (List D)} (hF : FunO P f args v (.arr T n es)) (hw : wantedV ops S o = some true) (ho : o.op = .call c) (hd : o.dst = some d)
  (hcal : calleeV S c = some (f, caps)) (hargs : mapO (viewV S.hp) (c.args.toList.map S.ev ++ caps) = some args) (hent : Rp.Enters P f) (hid : S.rts.contains d = false)
  (hclo : c.args.toList.map S.ev ++ caps = args ∧ closedL args = true)
  (hrest : Chain false P ops l (((S.kill d).setH d (some (.arr T n es))).put (some d) (v.ren d)) Q') : Chain false P ops (o :: l) S Q' := by
 refine Chain.call hw ho hd hcal hargs hent hF hid (.inl hclo) fun r k hq => ?_
 obtain ⟨h1, rfl⟩ := hq
 unfold St.got
 rw [← ren_ren (d := d) (e := 0) r, h1]
 exact hrest
end Go.Ab
end
section
namespace Go.Ab
open Go.RowKit Go.MapKept

/-! ### functions without captured variables -/
def V.wf : V → V
 | .d (.lit (.func f _ _)) => .fn f []
 | v => v
theorem RV.wf {E : Env} {w : World} {c : V} {v : Value} (h : RV E w c v) : RV E w c.wf v := by
 unfold V.wf
 split
 ·rename_i f a b
  have h : RD w E.Z (.lit (.func f a b)) v := h
  obtain ⟨rfl, hp⟩ := h
  simp only [plain, Bool.and_eq_true, Array.isEmpty_iff] at hp
  obtain ⟨rfl, rfl⟩ := hp
  exact ⟨[], rfl, rfl⟩
 ·exact h
theorem FunC.argsF {P : Program} {f : FuncId} {args args' : List V} {v v' : V} (h : FunC P f args' v') (ha : args' = args.map V.wf) (hv : v' = v) : FunC P f args v := by
 subst ha; subst hv
 exact ⟨h.1, fun w Z vals hg hz hx => h.2 w Z vals hg hz (RVs.frz (fun _ _ h => RV.wf h) hx)⟩

/-! ### maps as data -/
def vof (ag : Bool) (e : List D) : V := if ag then .agg (e.map .d) else (match e with | [d] => .d d | _ => .junk)
def mpiL (ag : Bool) : List MKey → List (List D) → List (MKey × V)
 | k :: ks, e :: vs => (k, vof ag e) :: mpiL ag ks vs
 | _, _ => []

def frzM (id : Nat) (x : D) : V → V
 | .mref i => if i = id then .d x else .mref i
 | v => v
attribute [simp] frzM

section
variable {κ α : Type} [DecidableEq κ]
end

/-! ### strings -/
def idxB (s : ByteArray) (i : Int) : Option Int := if 0 ≤ i then (s[i.toNat]?).map fun b => (b.toNat : Int) else none
def catB (a b : ByteArray) : Option ByteArray := if a.size + b.size ≤ 9223372036854775807 then some (a ++ b) else none
theorem catB_some {a b c : ByteArray} (h : catB a b = some c) : ((9223372036854775807 : Int) < (a.size : Int) + (b.size : Int)) = False ∧ a ++ b = c := by
 obtain ⟨h1, h2⟩ := gsome h
 injection h2 with h2
 refine ⟨eq_false ?_, h2⟩
 omega
def maxI (x y : Int) : Int := if x < y then y else x
def minI (x y : Int) : Int := if y < x then y else x

/-- bytes as a string -/
def bstr (l : List Int) : ByteArray := ⟨(l.map fun n => UInt8.ofNat n.toNat).toArray⟩
end Go.Ab
end
section
namespace Go.Ab
open Go.RowKit

/-- the capacity of nil -/
theorem pure_capNil {P : Program} {S : St} {c : Call} {t e : TypeId} {tt : TI} {x : Operand} (hc : c.callee = .builtin .cap) (hca : c.args = #[x]) (hct : c.argTypes = #[t]) (hT : tyOf P t = some tt) (hd : tt.desc = .slice e) (hx : S.ev x = .d (.lit (.slice none 0 0))) :
  Pure P (.call c) S (.d (.lit (.int .i64 0))) := by
 intro E w ρ oo hoo ok hev
 have h := hev x
 rw [hx] at h
 have h := RD_lit h
 have htu : P.underlying t = some (.slice e) := by rw [(tyOf_spec hT).1, hd]
 refine ⟨.int .i64 0, ⟨rfl, rfl⟩, fun w' _ => ?_⟩
 unfold execOp
 rw [hoo]
 simp [resolve, hc, hca, hct, invoke, builtin, Builtin.cap_, run_underlying htu, h, goInt]
/-- the empty part of nil -/
theorem pure_sliceNil {P : Program} {S : St} {T e : TypeId} {ti te : TI} {x y : Operand} (hT : tyOf P T = some ti) (hd : ti.desc = .slice e) (he : tyOf P e = some te) (hx : S.ev x = .d (.lit (.slice none 0 0))) (hy : S.ev y = .d (.lit (.int .i64 0))) :
  Pure P (.slice T x none (some y) none) S (.d (.lit (.slice none 0 0))) := by
 intro E w ρ oo hoo ok hev
 have h := hev x
 rw [hx] at h
 have h := RD_lit h
 have g := hev y
 rw [hy] at g
 have g := RD_lit g
 have htu : P.underlying T = some (.slice e) := by rw [(tyOf_spec hT).1, hd]
 refine ⟨.slice none 0 0, ⟨rfl, rfl⟩, fun w' _ => ?_⟩
 unfold execOp
 rw [hoo]
 simp [Instr.sliceAt, Instr.slice, run_underlying htu, h, g, Instr.sliceBounds, Instr.sliceBound, asIntOf, run_sizeOf he]

/-- zeros behind nil -/
theorem Chain.appMk {P : Program} {ops : Array Oper} {o : Oper} {l : List Oper} {S : St} {Q : St → Prop} {c : Call} {s x : Operand} {t tn e : TypeId} {tt tq te : TI} {d : Nat} {k kn : IntKind} {n : Nat} (hw : wantedV ops S o = some true) (ho : o.op = .call c)
  (hc : c.callee = .builtin .append) (hca : c.args = #[s, x]) (hct : c.argTypes = #[t, tn]) (hT : tyOf P t = some tt) (hd : tt.desc = .slice e) (hTn : tyOf P tn = some tq) (hdn : tq.desc = .int kn) (he : tyOf P e = some te) (hdst : o.dst = some d) (hid : S.rts.contains d = false)
  (hs : S.ev s = .d (.lit (.slice none 0 0))) (hx : S.ev x = .d (.lit (.int k n))) (hn : 0 < n)
  (hsz : 0 < te.size) (hpb : 0 < te.bytes) (hzc : te.zero.cells.size = te.size) (hzp : te.zero.cells.toList.all plain = true) (hbytes : n * te.bytes ≤ Rp.reach)
  (h : Chain false P ops l (((S.kill d).setH d (some (.arr e te.size (List.replicate n (te.zero.cells.toList.map .lit))))).put (some d) (.ref d 0 n)) Q) : Chain false P ops (o :: l) S Q := by
 intro fx a w Q' ⟨E, md⟩ hq
 unfold wpList
 rw [if_pos (wantedV_sound md hw)]
 refine .inl ?_
 have hid' : d ∉ S.rts := by simpa using hid
 have hsv := md.ev s
 rw [hs] at hsv
 have hsv := RD_lit hsv
 have hxv := md.ev x
 rw [hx] at hxv
 have hxv := RD_lit hxv
 obtain ⟨hu, i0, hi0, hi1, hi2, hi3⟩ := tyOf_spec he
 have htu : P.underlying t = some (.slice e) := by rw [(tyOf_spec hT).1, hd]
 have htn : P.underlying tn = some (.int kn) := by rw [(tyOf_spec hTn).1, hdn]
 have hnm : n ≤ Rp.reach := Nat.le_trans (Nat.le_mul_of_pos_right _ hpb) hbytes
 unfold Rp.reach at hnm hbytes
 have hrun := Lib.run_append_nil_zeros (P := P) w t tn o.type e i0 te.zero k kn htu htn hi0 hi3 n hn (by omega) (by omega) (by rw [hi2]; omega)
 have hml : n ≤ maxLen := by unfold maxLen; omega
 have hge := grownCap_ge w n 0 e
 have hle := grownCap_le_maxLen w n 0 e hml
 have md' : Mod fx S E a w.drew := md.grow ((Below.refl _ w).drew)
 have hreps := RDe_reps (w := w.drew) (Z := E.Z) hzp n
 have hz0 : ∀ q, (Builtin.zeroCells te.zero.cells q).size = q * te.size := fun q => by unfold Builtin.zeroCells; rw [Array.size_map, Array.size_range, hzc]
 obtain ⟨E', m', hr⟩ := md'.newArr (d := d) hid' (e := e) (n := te.size) (es := List.replicate n (te.zero.cells.toList.map D.lit)) (c := Builtin.zeroCells te.zero.cells n ++ Builtin.zeroCells te.zero.cells (grownCap w n 0 e - n)) (cap := grownCap w n 0 e) hsz
  (fun x hx => by rw [(List.mem_replicate.1 hx).2, List.length_map, Array.length_toList, hzc]) (by simpa using hge) hle (by rw [Array.size_append, hz0, hz0, ← Nat.add_mul]; congr 1; omega) hreps (by
   rw [List.length_replicate, Array.toList_append, List.take_left']
   ·rfl
   ·rw [Array.length_toList, hz0])
 simp only [List.length_replicate] at hr
 unfold Oper.wp execOp
 simp only [ho, resolve, hc, hca, hct, invoke, builtin, Sem.run_bind, Sem.run_pure, Result.andThen_ok, List.map_toArray, List.map_cons, List.map_nil, hsv, hxv, hrun, Oper.upon, hdst]
 exact h fx _ _ Q' ⟨E', m'.put (some d) hr⟩ hq
end Go.Ab
end
section
namespace Go.Ab
open Go.RowKit

def growL (b : Nat) (n : Int) : Option Unit := if 0 ≤ n ∧ n.toNat * b ≤ Rp.reach then some () else none
theorem growL_some {b : Nat} {n : Int} {u : Unit} (h : growL b n = some u) : ∃ k : Nat, n = k ∧ k * b ≤ Rp.reach := by
 obtain ⟨h1, _⟩ := gsome h
 exact ⟨n.toNat, by omega, h1.2⟩
def cM {κ α : Type} (kd : TypeDesc) (ag : Bool) (kf : κ → MKey) (cf : α → List D) (m : List (κ × α)) : List D := [.mpi kd ag (m.map (kf ∘ Prod.fst)) (m.map (cf ∘ Prod.snd))]
attribute [simp] cM
@[simp] theorem all_cM {κ α : Type} (kd : TypeDesc) (ag : Bool) (kf : κ → MKey) (cf : α → List D) (xs : List (List (κ × α))) : xs.all ((fun e => decide (e.length = 1)) ∘ cM kd ag kf cf) = true := all_len (c := cM kd ag kf cf) (fun _ => rfl) xs
/-- a struct as a map's value -/
def vA {α : Type} (c : α → List D) (x : α) : V := .agg ((c x).map .d)
/-- a slice as a map's value -/
def vO {α : Type} (c : α → List D) (xs : List α) : V := .d (.sl (xs.map c))
@[simp ↓] theorem toList_beqD (x y : ByteArray) : (x.toList == y.toList) = decide (x = y) := toList_beq x y
theorem Sub.tt {nt : Nat} {rts : List Nat} {l l' : List (Nat × V)} {h h' : List (Nat × Option Blk)} (hl : ∀ p ∈ l', p.2 = tlook l p.1 := by simp) (hh : ∀ p ∈ h', p.2 = hlook h p.1 := by simp) : Sub (mk nt rts l h) (mk nt rts l' h') := .table hl hh
end Go.Ab
end
section
namespace Go.Ab
open Go.RowKit

mutual
theorem RV.relo {E E' : Env} {w : World} (hz : E'.Z = E.Z) : ∀ (c : V) (x : Value), (∀ id, c.has id = true → E'.loc id = E.loc id) → RV E w c x → RV E' w c x
 | .d x, v, _, h => by unfold RV at h ⊢; rw [hz]; exact h
 | .ref i off len, v, hh, h => by
  unfold RV at h ⊢
  rw [hh i (by simp [V.has])]
  exact h
 | .ptr i k off, v, hh, h => by
  unfold RV at h ⊢
  rw [hh i (by simp [V.has])]
  exact h
 | .mref i, v, hh, h => by
  unfold RV at h ⊢
  rw [hh i (by simp [V.has])]
  exact h
 | .agg cs, v, hh, ⟨vs, h1, h2, h3⟩ => ⟨vs, h1, h2, RVs.relo hz cs vs (fun id h => hh id (by simpa [V.has] using h)) h3⟩
 | .tup cs, v, hh, ⟨vs, h1, h2⟩ => ⟨vs, h1, RVs.relo hz cs vs (fun id h => hh id (by simpa [V.has] using h)) h2⟩
 | .fn f cs, v, hh, ⟨vs, h1, h2⟩ => ⟨vs, h1, RVs.relo hz cs vs (fun id h => hh id (by simpa [V.has] using h)) h2⟩
 | .dx es, v, _, h => by unfold RV at h ⊢; rw [hz]; exact h
 | .hole, _, _, h => h
 | .junk, _, _, _ => trivial
theorem RVs.relo {E E' : Env} {w : World} (hz : E'.Z = E.Z) : ∀ (cs : List V) (vs : List Value), (∀ id, hasL id cs = true → E'.loc id = E.loc id) → RVs E w cs vs → RVs E' w cs vs
 | [], vs, _, h => h
 | c :: cs, vs, hh, ⟨v, r, h1, h2, h3⟩ => ⟨v, r, h1, RV.relo hz c v (fun id h => hh id (by simp [hasL, h])) h2, RVs.relo hz cs r (fun id h => hh id (by simp [hasL, h])) h3⟩
end

/-- a block that is no one's -/
def Free (H : Heap) (E : Env) (D : Nat) : Prop := (∀ i, H i ≠ none → ¬ (E.loc i).own D) ∧ ¬ E.Z D
def Env.more (E : Env) (Z : Nat → Prop) : Env := ⟨E.loc, fun b => E.Z b ∨ Z b⟩

/-- a frame that begins here -/
def Fx.now (W : World) (E : Env) (H : Heap) (roots : List (Nat × Loc)) (d : List Deferred) (ro : Option Nat) (h : ∀ l, ro = some l → Free H E l ∧ ∃ r, W.heap[l]? = some (.loop r)) (g : GO E H W) : Fx :=
 ⟨W, E.Z, lof E H, roots, d, ro, fun l e => by
  obtain ⟨⟨h1, h2⟩, r, h3⟩ := h l e
  exact ⟨(Array.getElem?_eq_some_iff.1 h3).1, fun ⟨i, a, b⟩ => h1 i a b, h2, r, h3⟩, g.gw, g.own⟩

theorem Mod.now {fx : Fx} {S : St} {E : Env} {a : Act} {W : World} (m : Mod fx S E a W) (roots : List (Nat × Loc)) (d : List Deferred) (ro : Option Nat) (h : ∀ l, ro = some l → Free S.hp E l ∧ ∃ r, W.heap[l]? = some (.loop r))
  (hr : ∀ r ∈ roots, r.1 ∈ S.rts ∧ E.loc r.1 = r.2) : Mod (Fx.now W E S.hp roots d ro h m.go) S E { a with defers := d } W :=
 ⟨m.nt, m.slots, rfl, m.ok, ⟨rfl, rfl, rfl, Nat.le_refl _, fun _ _ _ => rfl⟩, fun i hi _b hn => .inr ⟨i, hi, hn⟩, fun _ h => .inl h, hr⟩

/-- what happened since W left the loop's frame as it must be -/
structure Since (W : World) (E : Env) (H : Heap) (lp : Nat) (W3 : World) (E3 : Env) (H3 : Heap) : Prop where
 os : W3.os = W.os
 tape : W3.tape = W.tape
 output : W3.output = W.output
 size : W.heap.size ≤ W3.heap.size
 block : ∀ b, b < W.heap.size → ¬ lof E H b → b ≠ lp → W3.heap[b]? = W.heap[b]?
 mine : ∀ i, H3 i ≠ none → ∀ b, (E3.loc i).own b → W.heap.size ≤ b ∨ lof E H b
 z : ∀ b, E3.Z b → E.Z b ∨ W.heap.size ≤ b ∨ lof E H b

theorem Mod.resume {fx : Fx} {nt : Nat} {rts : List Nat} {sl : Nat → V} {H : Heap} {E : Env} {a : Act} {W : World} (m : Mod fx ⟨nt, rts, sl, H⟩ E a W) {lp : Nat} (hlp : fx.w0.heap.size ≤ lp) (hlf : Free H E lp)
  {fx3 : Fx} {S3 : St} {E3 : Env} {a3 : Act} {W3 : World} (m3 : Mod fx3 S3 E3 a3 W3) (s : Since W E H lp W3 E3 S3.hp) (hids : ∀ t id, (sl t).has id = true → E3.loc id = E.loc id) (hroots : ∀ r ∈ fx.roots, E3.loc r.1 = E.loc r.1) :
  Mod fx ⟨nt, rts, sl, S3.hp⟩ (E3.more E.Z) a W3 := by
 have hk : Keeps E.Z W W3 := fun b hb => s.block b (m.ok.zlt b hb) (fun ⟨i, hi, hn⟩ => m.ok.apart i hi b hn hb) (fun e => hlf.2 (e ▸ hb))
 refine ⟨m.nt, fun t => ?_, m.dfr, ⟨fun id k hh => ?_, m3.ok.inj, fun i hi b hn h => ?_, fun b hb => ?_, m3.ok.xlt⟩, ⟨s.os.trans m.frame.os, s.tape.trans m.frame.tape, s.output.trans m.frame.output, Nat.le_trans m.frame.size s.size, fun b h1 h2 => ?_⟩, fun i hi b hn => ?_, fun b hb => ?_, fun r hr => ?_⟩
 ·have h1 : RV ⟨E.loc, (E3.more E.Z).Z⟩ W3 (sl t) (a.tmps.getD t undef) := RV.keep (E := E) (E' := ⟨E.loc, (E3.more E.Z).Z⟩) hk (fun b h => Or.inr h) rfl _ _ (m.slots t)
  exact RV.relo (E := ⟨E.loc, (E3.more E.Z).Z⟩) (E' := E3.more E.Z) rfl _ _ (fun id h => hids t id h) h1
 ·exact (m3.ok.hold id k hh).keep (E' := E3.more E.Z) (fun _ _ => rfl) (fun _ h => .inl h) rfl (fun _ _ => rfl) (Nat.le_refl _)
 ·rcases h with h | h
  ·exact m3.ok.apart i hi b hn h
  ·rcases s.mine i hi b hn with g | ⟨j, g1, g2⟩
   ·exact absurd (m.ok.zlt _ h) (by omega)
   ·exact m.ok.apart j g1 b g2 h
 ·rcases hb with h | h
  ·exact m3.ok.zlt b h
  ·exact Nat.lt_of_lt_of_le (m.ok.zlt b h) s.size
 ·have hs := m.frame.size
  refine (s.block b (by omega) (fun ⟨i, hi, hn⟩ => ?_) (by omega)).trans (m.frame.block b h1 h2)
  rcases m.mine i hi b hn with g | g
  ·omega
  ·exact h2 g
 ·have hs := m.frame.size
  rcases s.mine i hi b hn with g | ⟨j, g1, g2⟩
  ·exact .inl (by omega)
  ·exact m.mine j g1 b g2
 ·have hs := m.frame.size
  have hL : ∀ b, lof E H b → fx.w0.heap.size ≤ b ∨ fx.L b := fun b ⟨i, hi, hn⟩ => m.mine i hi b hn
  rcases hb with h | h
  ·rcases s.z b h with h | h | h
   ·exact m.z b h
   ·exact .inr (.inl (by omega))
   ·exact .inr (hL b h)
  ·exact m.z b h
 ·exact ⟨(m.roots r hr).1, (hroots r hr).trans (m.roots r hr).2⟩

theorem Since.free {W : World} {E : Env} {H : Heap} {lp : Nat} {W3 : World} {E3 : Env} {H3 : Heap} (s : Since W E H lp W3 E3 H3) {D : Nat} (hD : D < W.heap.size) (h : Free H E D) : Free H3 (E3.more E.Z) D := by
 refine ⟨fun i hi hn => ?_, fun hz => ?_⟩
 ·rcases s.mine i hi D hn with g | ⟨j, g1, g2⟩
  ·omega
  ·exact h.1 j g1 g2
 ·rcases hz with hz | hz
  ·rcases s.z D hz with g | g | ⟨j, g1, g2⟩
   ·exact h.2 g
   ·omega
   ·exact h.1 j g1 g2
  ·exact h.2 hz

/-- turning the record at the end -/
theorem Since.turn {W : World} {E : Env} {H : Heap} {lp : Nat} {W3 : World} {E3 : Env} {H3 : Heap} (s : Since W E H lp W3 E3 H3) (o : Obj) : Since W E H lp (W3.putObj lp o) E3 H3 :=
 ⟨s.os, s.tape, s.output, by rw [World.putObj_size]; exact s.size, fun b h1 h2 h3 => (World.putObj_heap_other h3).trans (s.block b h1 h2 h3), s.mine, s.z⟩

theorem Mod.since {fx : Fx} {S : St} {E : Env} {a : Act} {W : World} (m : Mod fx S E a W) {W0 : World} {E0 : Env} {H0 : Heap} (lp : Nat) (h1 : ∃ o, fx.w0 = W0.putObj lp o) (h2 : fx.L = lof E0 H0) (h3 : fx.Z0 = E0.Z) : Since W0 E0 H0 lp W E S.hp := by
 obtain ⟨o, h1⟩ := h1
 have f := m.frame
 have mi := m.mine
 have mz := m.z
 rw [h1, h2] at mi
 rw [h1, h2, h3] at mz
 have hs : fx.w0.heap.size = W0.heap.size := by rw [h1, World.putObj_size]
 refine ⟨by rw [f.os, h1]; rfl, by rw [f.tape, h1]; rfl, by rw [f.output, h1]; rfl, by rw [← hs]; exact f.size, fun b hb hl hp => ?_, fun i hi b hn => ?_, fun b hb => ?_⟩
 ·rw [f.block b (by omega) (by rw [h2]; exact hl), h1]; exact World.putObj_heap_other hp
 ·have := mi i hi b hn; rw [World.putObj_size] at this; exact this
 ·have := mz b hb; rw [World.putObj_size] at this; exact this

theorem Mod.since0 {fx : Fx} {S : St} {E : Env} {a : Act} {W : World} (m : Mod fx S E a W) {W0 : World} {E0 : Env} {H0 : Heap} (lp : Nat) (h1 : fx.w0 = W0) (h2 : fx.L = lof E0 H0) (h3 : fx.Z0 = E0.Z) : Since W0 E0 H0 lp W E S.hp := by
 subst h1
 have f := m.frame
 have mi := m.mine
 have mz := m.z
 rw [h2] at mi
 rw [h2, h3] at mz
 exact ⟨f.os, f.tape, f.output, f.size, fun b hb hl _ => f.block b hb (by rw [h2]; exact hl), mi, mz⟩

theorem Free.less {H : Heap} {E : Env} {Z : Nat → Prop} {D : Nat} (h : Free H (E.more Z) D) : Free H E D := ⟨h.1, fun g => h.2 (.inl g)⟩
theorem Free.not {H : Heap} {E : Env} {D : Nat} (h : Free H E D) : ¬ lof E H D := fun ⟨i, a, b⟩ => h.1 i a b

/-- a frame that begins with the turn of a free block -/
theorem Mod.fresh {fx : Fx} {S : St} {E : Env} {a : Act} {W : World} (m : Mod fx S E a W) {D : Nat} (hf : Free S.hp E D) (hD : gN ≤ D) (o : Obj) (roots : List (Nat × Loc)) (ro : Option Nat) (h : ∀ l, ro = some l → Free S.hp E l ∧ ∃ r, (W.putObj D o).heap[l]? = some (.loop r))
  (hr : ∀ r ∈ roots, r.1 ∈ S.rts ∧ E.loc r.1 = r.2) : Mod (Fx.now (W.putObj D o) E S.hp roots a.defers ro h ⟨m.go.gw.keep (fun b hb => World.putObj_heap_other (Nat.ne_of_lt (Nat.lt_of_lt_of_le hb hD))) (by rw [World.putObj_size]; exact Nat.le_refl _), m.go.own⟩) S E a (W.putObj D o) := by
 have hk : Keeps E.Z W (W.putObj D o) := fun b hb => World.putObj_heap_other (fun e => hf.2 (e ▸ hb))
 refine ⟨m.nt, fun t => RV.keep hk (fun _ h => h) rfl _ _ (m.slots t), rfl, ⟨fun id k hh => ?_, m.ok.inj, m.ok.apart, fun b hb => by rw [World.putObj_size]; exact m.ok.zlt b hb, fun i hi b hb => by rw [World.putObj_size]; exact m.ok.xlt i hi b hb⟩, ⟨rfl, rfl, rfl, Nat.le_refl _, fun _ _ _ => rfl⟩, fun i hi b hn => .inr ⟨i, hi, hn⟩, fun _ h => .inl h, hr⟩
 exact (m.ok.hold id k hh).keep hk (fun _ h => h) rfl (fun b hn => World.putObj_heap_other (fun e => hf.1 id (by rw [hh]; simp) (e ▸ hn))) (by rw [World.putObj_size]; exact Nat.le_refl _)

theorem Since.trans {W1 W2 W3 : World} {E1 E2 E3 : Env} {H1 H2 H3 : Heap} {lp : Nat} (x : Since W1 E1 H1 lp W2 E2 H2) (y : Since W2 E2 H2 lp W3 E3 H3) : Since W1 E1 H1 lp W3 E3 H3 := by
 have hL : ∀ b, lof E2 H2 b → W1.heap.size ≤ b ∨ lof E1 H1 b := fun b ⟨i, hi, hn⟩ => x.mine i hi b hn
 have hs := x.size
 refine ⟨y.os.trans x.os, y.tape.trans x.tape, y.output.trans x.output, Nat.le_trans x.size y.size, fun b h1 h2 h3 => ?_, fun i hi b hn => ?_, fun b hb => ?_⟩
 ·refine (y.block b (by omega) (fun h => ?_) h3).trans (x.block b h1 h2 h3)
  rcases hL b h with h | h
  ·omega
  ·exact h2 h
 ·rcases y.mine i hi b hn with h | h
  ·exact .inl (by omega)
  ·exact hL _ h
 ·rcases y.z b hb with h | h | h
  ·exact x.z b h
  ·exact .inr (.inl (by omega))
  ·exact .inr (hL _ h)
end Go.Ab
end
section
namespace Go.Ab
open Go.RowKit

def rangeL {α β ρ : Type} (step : α → β → Option (Out β ρ)) : List α → β → Option (Out β ρ)
 | [], b => some (.go b)
 | x :: xs, b => match step x b with
  | some (.go b') => rangeL step xs b'
  | some (.ret r) => some (.ret r)
  | none => none

def elemV : List D → V
 | [c] => .d c
 | cs => .agg (cs.map .d)
def elemW : List Value → Value
 | [v] => v
 | vs => .agg vs.toArray
theorem elemV_sound {E : Env} {w : World} : ∀ {cs : List D} {vs : List Value}, RDs w E.Z cs vs → RV E w (elemV cs) (elemW vs)
 | [], vs, h => by
  obtain rfl : vs = [] := h
  exact ⟨[], rfl, fun c h => by simp at h, rfl⟩
 | [c], vs, h => by
  obtain ⟨v, r, rfl, h1, h2⟩ := h
  obtain rfl : r = [] := h2
  exact h1
 | c :: d :: cs, vs, h => by
  have h' := RVs_d.2 h
  obtain ⟨v, r, rfl, h1, v', r', rfl, h2, h3⟩ := h
  exact ⟨_, rfl, fun c h => by obtain ⟨x, _, rfl⟩ := List.mem_map.1 h; rfl, h'⟩

@[simp] theorem elemV_one (c : D) : elemV [c] = .d c := rfl
@[simp] theorem elemV_two (c d : D) (cs : List D) : elemV (c :: d :: cs) = .agg ((c :: d :: cs).map .d) := rfl

attribute [simp] V.wk1 D.wk

structure SrcOk (H : Heap) (src : V) (es : List (List D)) (m : Nat) : Prop where
 len : ∀ (E : Env) (w : World) (u : Value), E.ok H w → RV E w src u → es.length ≤ maxLen ∧ ∃ A cap, u = .slice A es.length cap
 get : ∀ (E : Env) (w : World) (u : Value), E.ok H w → RV E w src u → ∀ (j : Nat) (e : List D), es[j]? = some e → ∃ b off cap vs, u = .slice (some ⟨b, off, none⟩) es.length cap ∧ RDs w E.Z e vs ∧ w.rangeAt b (off + j * m) vs
theorem SrcOk.of {H : Heap} {src : V} {es : List (List D)} {m : Nat} (hl : lenV src = some es.length) (h1 : ∀ (E : Env) (w : World) (u : Value), E.ok H w → RV E w src u → es.length ≤ maxLen) (h2 : ∀ (j : Nat) (e : List D), es[j]? = some e → ∃ r, idxS H src (j : Int) m = some r ∧ cellsAt H r = some (e.map .d)) : SrcOk H src es m :=
 ⟨fun E w u ok h => ⟨h1 E w u ok h, lenV_sound h hl⟩, fun E w u ok h j e he => by
  obtain ⟨A, cap, hu⟩ := lenV_sound h hl
  obtain ⟨r, hr, hc⟩ := h2 j e he
  obtain ⟨b, o, len, cap', hu', _, _, hr'⟩ := idxS_sound ok h hr
  obtain ⟨b', o', vs, hp, g1, g2, _, _⟩ := cellsAt_sound ok hr' hc
  rw [hu] at hu'
  injection hu' with e1 e2 e3
  injection hp with hp
  injection hp with hp
  injection hp with q1 q2
  refine ⟨b, o, cap, vs, by rw [hu, e1], RVs_d.1 g1, ?_⟩
  rw [← q1, ← q2] at g2
  simpa using g2⟩
theorem SrcOk.data {H : Heap} {es : List (List D)} {m : Nat} (hm : ∀ e ∈ es, e.length = m) : SrcOk H (.d (.sl es)) es m :=
 SrcOk.of rfl (fun E w u ok h => by obtain ⟨A, cap, _, h1, h2, _⟩ := h; omega) fun j e he => ⟨.d (.pim e), by simp [idxS, he, hm e (List.mem_of_getElem? he)], rfl⟩
theorem SrcOk.own {H : Heap} {es : List (List D)} {m id T : Nat} (h : H id = some (.arr T m es)) : SrcOk H (.ref id 0 es.length) es m :=
 SrcOk.of rfl (fun E w u ok _ => by
  obtain ⟨_, _, _, _, h5⟩ := ok.hold _ _ h
  rcases h5 with ⟨_, h6⟩ | ⟨_, c, flat, _, h7, h8, _⟩
  ·rw [h6]; exact Nat.zero_le _
  ·omega) fun j e he => ⟨.ptr id j 0, by simp [idxS, h, (List.getElem?_eq_some_iff.1 he).1], by simp [cellsAt, h, he]⟩

/-- what the iterator hands over in round k: the elements from the last to the first -/
def BackArg (m : Nat) (p : Addr) (N k : Nat) (W : World) (args : Array Value) : Prop :=
 ∃ b off cap vs, W.cell? p = some (.slice (some ⟨b, off, none⟩) N cap) ∧ W.rangeAt b (off + (N - 1 - k) * m) vs ∧ vs.length = m ∧ args = #[.int .i64 ((N - 1 - k : Nat) : Int), elemW vs]
def BackC (P : Program) (gf m : Nat) : Prop :=
 ∀ (pb po l N : Nat) (J : Nat → World → Prop) (Jx : World → Prop) (W : World), N ≤ maxLen →
  (∀ k W, k ≤ N → J k W → ∃ A cap, W.cell? ⟨pb, po, none⟩ = some (.slice A N cap)) →
  (∀ k W, k < N → J k W → ∃ args, BackArg m ⟨pb, po, none⟩ N k W args ∧ YieldAt Fence.wide 6 P l args W fun e W' => (e = .returned (.bool true) ∧ J (k + 1) W') ∨ (e = .returned (.bool false) ∧ Jx W')) →
  J 0 W → CallsIn Fence.wide 7 P gf #[.func (.yield l) #[] #[], .pointer (some ⟨pb, po, none⟩)] W fun e W' => (∃ v, e = .returned v) ∧ (J N W' ∨ Jx W')

theorem callsIn_rd {ro : Option Nat} {n k : Nat} {P : Program} {f : FuncId} {args : Array Value} {w : World} {R : Ending → World → Prop} (h : CallsIn Fence.wide n P f args w R) : CallsIn (Rd ro) k P f args w R := rd_calls (callsIn_wide.1 h)
theorem wpIn_any {ro : Option Nat} {n k : Nat} {P : Program} {c : Code} {Q : Exit → Act → World → Prop} {a : Act} {w : World} (h : c.wpIn (Rd ro) n P Q a w) : c.wpIn (Rd ro) k P Q a w := fun b kk cs h1 h2 _ => h b kk cs h1 h2 (fun _ hd => by cases hd)

theorem run_enterLoop_inner {P : Program} {w : World} {l0 : Nat} {r0 : Loop} (h : w.heap[l0]? = some (.loop r0)) (fn : FuncId) (tmps : Array Value) (ps : Array Tmp) (assign body : Code) :
  (Instr.enterLoop fn tmps ps assign body (some l0)).run P w = .ok (w.heap.size, []) (w.alloc (.loop { state := .ready, pending := none, fn, tmps, params := ps, assign, body, defers := r0.defers })) := by
 unfold Instr.enterLoop
 simp only [Sem.run_bind, run_getLoop h, run_newObj_alloc, Result.andThen, Sem.run_pure]

theorem grow_alloc (w : World) (o : Obj) : Grow w (w.alloc o) := ⟨rfl, rfl, rfl, by simp, fun b hb => Below.heap_alloc _ _ _ hb⟩
theorem Grow.trans' {a b c : World} (h : Grow a b) (k : Grow b c) : Grow a c := ⟨k.os.trans h.os, k.tape.trans h.tape, k.output.trans h.output, Nat.le_trans h.size k.size, fun i hi => (k.block i (Nat.lt_of_lt_of_le hi h.size)).trans (h.block i hi)⟩

theorem enter_any {P : Program} {w : World} {ro : Option Nat} (h : ∀ l, ro = some l → ∃ r, w.heap[l]? = some (.loop r)) (fn : FuncId) (tmps : Array Value) (ps : Array Tmp) (assign body : Code) :
  ∃ (lp D : Nat) (ms : List Nat) (W1 : World), (Instr.enterLoop fn tmps ps assign body ro).run P w = .ok (lp, ms.map coll) W1 ∧ W1.heap[lp]? = some (.loop { state := .ready, pending := none, fn, tmps, params := ps, assign, body, defers := D }) ∧ Grow w W1 ∧ w.heap.size ≤ lp ∧ ms.Nodup ∧
   ∀ d ∈ ms, w.heap.size ≤ d ∧ d ≠ lp ∧ W1.heap[d]? = some (.deferred (some [])) := by
 cases ro with
 | none =>
  refine ⟨_, w.heap.size, [w.heap.size], _, run_enterLoop_outer fn tmps ps assign body, ?_, (grow_alloc _ _).trans' (grow_alloc _ _), by omega, by simp, fun d hd => ?_⟩
  ·have := World.alloc_heap_new (w.alloc (.deferred (some []))) (.loop { state := .ready, pending := none, fn, tmps, params := ps, assign, body, defers := w.heap.size })
   rwa [World.size_alloc] at this
  ·obtain rfl : d = w.heap.size := by simpa using hd
   exact ⟨Nat.le_refl _, by omega, (Below.heap_alloc _ _ _ (by simp)).trans (World.alloc_heap_new w _)⟩
 | some l0 =>
  obtain ⟨r0, h0⟩ := h l0 rfl
  exact ⟨_, r0.defers, [], _, run_enterLoop_inner h0 fn tmps ps assign body, World.alloc_heap_new w _, grow_alloc _ _, Nat.le_refl _, List.nodup_nil, fun d hd => by cases hd⟩

def jumpOf : Exit → Option Code
 | .ret => some .ret
 | .exit id => some (.exit id)
 | .goto t => some (.goto t)
 | _ => none

def PostR {β ρ : Type} (nt : Nat) (rts rts' : List Nat) (l : List (Nat × V)) (Hst : β → List (Nat × Option Blk)) (r : ρ) (Q : Exit → St → Prop) : Out β ρ → Exit → St → Prop
 | .go b, e, S => e = .normal ∧ Sub S (mk nt rts' [] (Hst b))
 | .ret r', e, S => jumpOf e ≠ none ∧ ∃ h', Sub S (mk nt rts' [] h') ∧ (r' = r → Q e (mk nt rts l h'))

theorem tlook_has {id : Nat} : ∀ {l : List (Nat × V)} {t : Nat}, (tlook l t).has id = true → ∃ p ∈ l, p.2.has id = true
 | [], _, h => by simp [tlook, V.has] at h
 | (k, v) :: l, t, h => by
  simp only [tlook] at h
  split at h
  ·exact ⟨_, List.mem_cons_self .., h⟩
  ·obtain ⟨p, h1, h2⟩ := tlook_has h
   exact ⟨p, List.mem_cons_of_mem _ h1, h2⟩

theorem Free.grow {H : Heap} {E : Env} {w : World} (ok : E.ok H w) {D : Nat} (h : w.heap.size ≤ D) : Free H E D :=
 ⟨fun i hi hn => by
   have := ok.own_lt hi hn
   omega, fun hz => by have := ok.zlt D hz; omega⟩

theorem rangeL_drop {α β ρ : Type} {step : α → β → Option (Out β ρ)} {xs : List α} {k : Nat} {x : α} {b : β} {o : Out β ρ} (hx : xs[k]? = some x) (h : rangeL step (xs.drop k) b = some o) :
  (∃ b', step x b = some (.go b') ∧ rangeL step (xs.drop (k + 1)) b' = some o) ∨ ∃ r', step x b = some (.ret r') ∧ o = .ret r' := by
 obtain ⟨hlt, he⟩ := List.getElem?_eq_some_iff.1 hx
 rw [List.drop_eq_getElem_cons hlt, he] at h
 simp only [rangeL] at h
 split at h
 ·rename_i b' hb; exact .inl ⟨b', hb, h⟩
 ·rename_i r' hb; injection h with h; exact .inr ⟨r', hb, h.symm⟩
 ·cases h

section
variable {P : Program} {α β ρ : Type}
set_option maxHeartbeats 1000000 in
theorem AW.back {tg : Nat} {p0 p1 : Tmp} {assign body : Code} {S : St} {Q : Exit → St → Prop} {gf mz B : Nat} {src : V} {c : α → List D} {xs : List α} {step : α → β → Option (Out β ρ)} {b0 : β} {o : Out β ρ} {r : ρ} {nt : Nat} {rts : List Nat} {l : List (Nat × V)}
  (Hst : β → List (Nat × Option Blk)) (rts' : List Nat) (hC : BackC P gf mz) (hent : Rp.Enters P gf) (h0 : Sub S (mk nt rts l (Hst b0)))
  (hg : tlook l tg = .fn (.func gf) [.ptr B 0 0]) (hB : ∀ b, hlook (Hst b) B = some (.box [src])) (hsrc : ∀ b, SrcOk (hlook (Hst b)) src (xs.map c) mz) (hm : ∀ x, (c x).length = mz)
  (hrts : ∀ i ∈ rts, i ∈ rts') (hids : ∀ p ∈ l, ∀ id, p.2.has id = true → id ∈ rts')
  (hd : rangeL step xs.reverse b0 = some o)
  (round : ∀ b x o', step x b = some o' → AW P assign (((mk nt rts' l (Hst b)).put (some p0) .junk).put (some p1) (elemV (c x))) (thenQ (fun S1 => AW P body S1 (PostR nt rts rts' l Hst r Q o')) (fun _ _ => False))) :
  AW P (.rangeFunc (.tmp tg) #[p0, p1] assign body) S (PostJ (fun b => mk nt rts l (Hst b)) r Q o) := by
 intro fx a w m0
 obtain ⟨E0, m⟩ := h0 fx a w m0
 have hgv := m.ev (.tmp tg)
 rw [show (mk nt rts l (Hst b0)).ev (.tmp tg) = .fn (.func gf) [.ptr B 0 0] from hg] at hgv
 obtain ⟨vs, hval, v0, r0, rfl, hp, rfl⟩ := hgv
 obtain ⟨hBn, rfl⟩ := hp
 have hpin0 : ∀ t id, (tlook l t).has id = true → id ∈ rts' := fun t id h => by obtain ⟨p, h1, h2⟩ := tlook_has h; exact hids p h1 id h2
 refine wpIn_rangeFunc fun fn _ => ?_
 obtain ⟨lp, Dd, ms, W1, hrun, hL1, hgr, hlp, hnd, hms⟩ := enter_any (P := P) (w := w) (ro := fx.ro) (fun l0 e => by
  obtain ⟨g1, g2, _, r0, g4⟩ := fx.lrec l0 e
  exact ⟨r0, (m.frame.block l0 g1 g2).trans g4⟩) fn a.tmps #[p0, p1] assign body
 obtain ⟨rec, hrec⟩ : ∃ rec : LoopState → Option Code → Loop, rec = fun st pe => { state := st, pending := pe, fn, tmps := a.tmps, params := #[p0, p1], assign, body, defers := Dd } := ⟨_, rfl⟩
 have hL1 : W1.heap[lp]? = some (.loop (rec .ready none)) := by rw [hrec]; exact hL1
 have hlt1 : lp < W1.heap.size := (Array.getElem?_eq_some_iff.1 hL1).1
 obtain ⟨roots, hroots⟩ : ∃ roots : List (Nat × Loc), roots = rts'.map fun i => (i, E0.loc i) := ⟨_, rfl⟩
 obtain ⟨fxl, hfxl⟩ : ∃ fxl, fxl = Fx.now w E0 (hlook (Hst b0)) roots a.defers none (fun _ h => by cases h) m.go := ⟨_, rfl⟩
 have ml : Mod fxl ⟨nt, rts', tlook l, hlook (Hst b0)⟩ E0 a w := by
  subst hfxl
  exact ⟨m.nt, m.slots, rfl, m.ok, ⟨rfl, rfl, rfl, Nat.le_refl _, fun _ _ _ => rfl⟩, fun i hi b hn => .inr ⟨i, hi, hn⟩, fun _ h => .inl h, fun r hr => by
   rw [show (Fx.now w E0 (hlook (Hst b0)) roots a.defers none (fun _ h => by cases h) m.go).roots = roots from rfl, hroots] at hr
   obtain ⟨i, hi, rfl⟩ := List.mem_map.1 hr
   exact ⟨hi, rfl⟩⟩
 have hw0 : fxl.w0 = w := by rw [hfxl]; rfl
 have hrr : fxl.roots = rts'.map fun i => (i, E0.loc i) := by rw [hfxl, ← hroots]; rfl
 have hgD : gN ≤ lp := Nat.le_trans m.go.gw.lt hlp
 -- where the pinned names lie
 have pin : ∀ {b : β} {h : List (Nat × Option Blk)} {E : Env} {W : World}, Mod fxl ⟨nt, rts', tlook l, hlook h⟩ E a W → ∀ i ∈ rts', E.loc i = E0.loc i := fun {b h E W} mm i hi =>
  (mm.roots (i, E0.loc i) (by rw [hrr]; exact List.mem_map.2 ⟨i, hi, rfl⟩)).2
 have hBin : B ∈ rts' := hpin0 tg B (by rw [hg]; simp [V.has, hasL])
 obtain ⟨J, hJ⟩ : ∃ J : Nat → World → Prop, J = fun k W => ∃ b E, rangeL step (xs.reverse.drop k) b = some o ∧ Mod fxl ⟨nt, rts', tlook l, hlook (Hst b)⟩ E a W ∧ W.heap[lp]? = some (.loop (rec .ready none)) ∧ (∀ d ∈ ms, W.heap[d]? = some (.deferred (some []))) ∧ (∀ d ∈ lp :: ms, Free (hlook (Hst b)) E d) := ⟨_, rfl⟩
 obtain ⟨Jx, hJx⟩ : ∃ Jx : World → Prop, Jx = fun W => ∃ e jc h' E r', jumpOf e = some jc ∧ o = .ret r' ∧ (r' = r → Q e (mk nt rts l h')) ∧ Mod fxl ⟨nt, rts', tlook l, hlook h'⟩ E a W ∧ W.heap[lp]? = some (.loop (rec .done (some jc))) ∧ (∀ d ∈ ms, W.heap[d]? = some (.deferred (some []))) ∧ (∀ d ∈ lp :: ms, Free (hlook h') E d) := ⟨_, rfl⟩
 have hm1 : ∀ d ∈ lp :: ms, w.heap.size ≤ d ∧ d < W1.heap.size := fun d hd => by
  rcases List.mem_cons.1 hd with rfl | h
  ·exact ⟨hlp, hlt1⟩
  ·obtain ⟨g1, _, g3⟩ := hms d h
   exact ⟨g1, (Array.getElem?_eq_some_iff.1 g3).1⟩
 have hJ0 : J 0 W1 := by
  rw [hJ]
  exact ⟨b0, E0, hd, ml.grow hgr, hL1, fun d hd => (hms d hd).2.2, fun d hd => Free.grow m.ok (hm1 d hd).1⟩
 -- the frame behind the loop
 have behind : ∀ (h : List (Nat × Option Blk)) (E : Env) (W : World), Mod fxl ⟨nt, rts', tlook l, hlook h⟩ E a W → (∀ d ∈ ms, W.heap[d]? = some (.deferred (some []))) → (∀ d ∈ lp :: ms, Free (hlook h) E d) →
   ∃ fx', Ext fx fx' ∧ Models fx' (mk nt rts l h) { a with defers := ms.map coll ++ a.defers } W := by
  intro h E W mm hmk hfree
  have hE : ∀ i ∈ rts', E.loc i = E0.loc i := pin (b := b0) mm
  have hLl : ∀ b, lof E0 (hlook (Hst b0)) b → fx.w0.heap.size ≤ b ∨ fx.L b := fun b ⟨i, hi, hn⟩ => m.mine i hi b hn
  have hfl : fxl.L = lof E0 (hlook (Hst b0)) := by rw [hfxl]; rfl
  have hzl : fxl.Z0 = E0.Z := by rw [hfxl]; rfl
  have hsw := m.frame.size
  have hfr : fx.frame W := by
   have f := mm.frame
   refine ⟨f.os.trans (hw0 ▸ m.frame.os), f.tape.trans (hw0 ▸ m.frame.tape), f.output.trans (hw0 ▸ m.frame.output), Nat.le_trans hsw (hw0 ▸ f.size), fun b h1 h2 => ?_⟩
   have := f.block b (by rw [hw0]; omega) (by rw [hfl]; intro h; rcases hLl b h with h | h; omega; exact h2 h)
   rw [hw0] at this
   exact this.trans (m.frame.block b h1 h2)
  have hmine : ∀ b, lof E (hlook h) b → fx.w0.heap.size ≤ b ∨ fx.L b := fun b ⟨i, hi, hn⟩ => by
   rcases mm.mine i hi b hn with g | g
   ·rw [hw0] at g; exact .inl (by omega)
   ·rw [hfl] at g; exact hLl _ g
  have hz : ∀ b, E.Z b → fx.Z0 b ∨ fx.w0.heap.size ≤ b ∨ fx.L b := fun b hb => by
   rcases mm.z b hb with g | g | g
   ·rw [hzl] at g; exact m.z b g
   ·rw [hw0] at g; exact .inr (.inl (by omega))
   ·rw [hfl] at g; exact .inr (hLl b g)
  have hrec' : ∀ l0, fx.ro = some l0 → Free (hlook h) E l0 ∧ ∃ r, W.heap[l0]? = some (.loop r) := fun l0 e => by
   obtain ⟨g1, g2, g3, r0, g4⟩ := fx.lrec l0 e
   refine ⟨⟨fun i hi hn => ?_, fun hz' => ?_⟩, r0, (hfr.block l0 g1 g2).trans g4⟩
   ·rcases hmine l0 ⟨i, hi, hn⟩ with g | g
    ·omega
    ·exact g2 g
   ·rcases hz l0 hz' with g | g | g
    ·exact g3 g
    ·omega
    ·exact g2 g
  refine ⟨Fx.now W E (hlook h) fx.roots (ms.map coll ++ fx.dfr) fx.ro hrec' mm.go, ⟨rfl, hfr, hmine, hz, rfl, ms, rfl, hnd, fun d hd => ?_⟩, E, ?_⟩
  ·have h1 := hm1 d (List.mem_cons_of_mem _ hd)
   have h2 := hfree d (List.mem_cons_of_mem _ hd)
   have h3 := hmk d hd
   exact ⟨by omega, (Array.getElem?_eq_some_iff.1 h3).1, h3, h2.2, fun ⟨i, a1, a2⟩ => h2.1 i a1 a2⟩
  ·refine ⟨mm.nt, mm.slots, by rw [m.dfr]; rfl, mm.ok, ⟨rfl, rfl, rfl, Nat.le_refl _, fun _ _ _ => rfl⟩, fun i hi b hn => .inr ⟨i, hi, hn⟩, fun _ h => .inl h, fun r hr => ?_⟩
   obtain ⟨g1, g2⟩ := m.roots r hr
   exact ⟨g1, (hE r.1 (hrts _ g1)).trans g2⟩
 refine ⟨lp, ms.map coll, W1, { target := .fn (.func gf) [.pointer (some ⟨(E0.loc B).b, (E0.loc B).o + 0 * (E0.loc B).n + 0, none⟩)].toArray, args := #[.func (.yield lp) #[] #[]] }, W1, gf, #[.func (.yield lp) #[] #[], .pointer (some ⟨(E0.loc B).b, (E0.loc B).o + 0 * (E0.loc B).n + 0, none⟩)], W1, hrun, ?_, fun _ _ => trivial, ?_, (fun h => by cases h), ?_⟩
 ·simp only [resolve, hval]
  simp [go_sem]
 ·have := hent #[.func (.yield lp) #[] #[], .pointer (some ⟨(E0.loc B).b, (E0.loc B).o + 0 * (E0.loc B).n + 0, none⟩)] W1
  simp [invoke, go_sem] at this ⊢
  exact this
 ·-- the box
  have rd : ∀ {b : β} {E : Env} {W : World}, Mod fxl ⟨nt, rts', tlook l, hlook (Hst b)⟩ E a W → ∃ u, W.cell? ⟨(E0.loc B).b, (E0.loc B).o + 0 * (E0.loc B).n + 0, none⟩ = some u ∧ RV E W src u := fun {b E W} mm => by
   obtain ⟨_, _, vs, hv, hra, _, _⟩ := mm.ok.hold B _ (hB b)
   obtain ⟨u, r0, rfl, hu, hr0⟩ := hv
   refine ⟨u, ?_, hu⟩
   have := hra 0 u rfl
   rw [pin (b := b) mm B hBin] at this
   simpa using this
  have hlen : xs.length ≤ maxLen := by
   obtain ⟨u, _, hu⟩ := rd ml
   have := ((hsrc b0).len E0 w u ml.ok hu).1
   simpa using this
  have hw1 : fxl.w0.heap.size ≤ lp := by rw [hw0]; exact hlp
  refine (callsIn_rd (hC _ _ lp xs.length J Jx W1 hlen ?_ ?_ hJ0)).mono ?_
  ·intro k W _ hk
   rw [hJ] at hk
   obtain ⟨b, E, _, mm, _⟩ := hk
   obtain ⟨u, h1, hu⟩ := rd mm
   obtain ⟨_, A, cap, rfl⟩ := (hsrc b).len E W u mm.ok hu
   exact ⟨A, cap, by simpa using h1⟩
  ·intro k W hk hJk
   rw [hJ] at hJk
   obtain ⟨b, E, hr, mm, hl, hmk, hfree⟩ := hJk
   obtain ⟨x, hx⟩ : ∃ x, xs.reverse[k]? = some x := ⟨_, List.getElem?_eq_getElem (by simpa using hk)⟩
   have hx2 : (xs.map c)[xs.length - 1 - k]? = some (c x) := by
    rw [List.getElem?_reverse hk] at hx
    rw [List.getElem?_map, hx]; rfl
   obtain ⟨u, h1, hu⟩ := rd mm
   obtain ⟨bb, off, cap, vs, rfl, hvs, hra⟩ := (hsrc b).get E W u mm.ok hu _ _ hx2
   have hvl : vs.length = mz := by rw [RDs_length hvs, hm]
   have hstep : ∃ o', step x b = some o' ∧ ((∃ b', o' = .go b' ∧ rangeL step (xs.reverse.drop (k + 1)) b' = some o) ∨ ∃ r', o' = .ret r' ∧ o = .ret r') := by
    rcases rangeL_drop hx hr with ⟨b', h2, h3⟩ | ⟨r', h2, h3⟩
    ·exact ⟨_, h2, .inl ⟨b', rfl, h3⟩⟩
    ·exact ⟨_, h2, .inr ⟨r', rfl, h3⟩⟩
   obtain ⟨o', hst, hcont⟩ := hstep
   refine ⟨_, ⟨bb, off, cap, vs, by simpa using h1, hra, hvl, rfl⟩, ?_⟩
   have hy := run_yield (P := P) (args := #[.int .i64 ((xs.length - 1 - k : Nat) : Int), elemW vs]) hl (by rw [hrec]; rfl)
   rw [hrec] at hy
   refine ⟨fn, _, assign, body, hy, roundIn_of_wpIn trivial ?_⟩
   clear hy
   have hfl := hfree lp (List.mem_cons_self ..)
   have hltW : lp < W.heap.size := (Array.getElem?_eq_some_iff.1 hl).1
   have hpinE := pin (b := b) mm
   have hrts1 : ∀ r ∈ roots, r.1 ∈ rts' ∧ E.loc r.1 = r.2 := fun r hr => by
    rw [hroots] at hr
    obtain ⟨i, hi, rfl⟩ := List.mem_map.1 hr
    exact ⟨hi, hpinE i hi⟩
   have m0 := mm.now roots [] (some lp) (fun l' e => by injection e with e; subst e; exact ⟨hfl, _, hl⟩) hrts1
   have m1 := (m0.put (some p0) (v := .junk) (x := .int .i64 ((xs.length - 1 - k : Nat) : Int)) trivial).put (some p1) (elemV_sound hvs)
   have hA := round b x o' hst _ _ W ⟨E, m1⟩
   refine wpIn_any (ro := some lp) (n := 0) ?_
   refine Code.wpIn_mono ?_ (show assign.wpIn (Rd (some lp)) 0 P _ _ W from by simpa [Act.put, Fx.now] using hA)
   rintro e1 a1 Wa ⟨S1, fx1, hq, hx1, E1, m1'⟩
   cases e1 with
   | normal =>
    have hq : AW P body S1 (PostR nt rts rts' l Hst r Q o') := hq
    have m1b := m1'.back hx1
    have s1 := m1b.since0 (W0 := W) (E0 := E) (H0 := hlook (Hst b)) lp rfl rfl rfl
    have hla : Wa.heap[lp]? = some (.loop (rec .ready none)) := (m1b.frame.block lp hltW hfl.not).trans hl
    have hf1 : Free S1.hp E1 lp := (s1.free hltW hfl).less
    refine ⟨_, run_beginRound hla (by rw [hrec]), ?_⟩
    have hlb : (Wa.putObj lp (.loop { rec .ready none with state := .busy })).heap[lp]? = some (.loop { rec .ready none with state := .busy }) := World.putObj_heap_same (Array.getElem?_eq_some_iff.1 hla).1
    have m2 := m1'.fresh hf1 hgD (.loop { rec .ready none with state := .busy }) roots (some lp) (fun l' e => by injection e with e; subst e; exact ⟨hf1, _, hlb⟩) (fun r hr => m1b.roots r hr)
    have hB2 := hq _ _ _ ⟨E1, m2⟩
    refine wpIn_any (ro := some lp) (n := 0) ?_
    refine Code.wpIn_mono ?_ hB2
    rintro e3 a3 W3 ⟨S3, fx3, hp3, hx3, hM3⟩
    -- the end of a round, whatever it leaves by
    have fin : ∀ (h' : List (Nat × Option Blk)) (jump : Option Code), Sub S3 (mk nt rts' [] h') → ∃ E4 W4, (Instr.endRound lp jump).run P W3 = .ok (.bool jump.isNone) W4 ∧ Mod fxl ⟨nt, rts', tlook l, hlook h'⟩ E4 a W4 ∧ W4.heap[lp]? = some (.loop (rec (if jump.isNone then .ready else .done) jump)) ∧ (∀ d ∈ ms, W4.heap[d]? = some (.deferred (some []))) ∧ (∀ d ∈ lp :: ms, Free (hlook h') E4 d) := fun h' jump hsub => by
     obtain ⟨E3, m3⟩ := hsub _ _ _ hM3
     have m3b := m3.back hx3
     have s2 := m3b.since (W0 := Wa) (E0 := E1) (H0 := S1.hp) lp ⟨_, rfl⟩ rfl rfl
     have s := s1.trans s2
     have hl3 : W3.heap[lp]? = some (.loop { rec .ready none with state := .busy }) := (m3b.frame.block lp (Array.getElem?_eq_some_iff.1 hlb).1 hf1.not).trans hlb
     have hro3 : ∀ i ∈ rts', E3.loc i = E.loc i := fun i hi => (m3b.roots (i, E0.loc i) (by show _ ∈ roots; rw [hroots]; exact List.mem_map.2 ⟨i, hi, rfl⟩)).2.trans (hpinE i hi).symm
     have mr := mm.resume hw1 hfl m3 s (fun t id h => hro3 id (hpin0 t id h)) (fun r hr => by
      rw [hrr] at hr
      obtain ⟨i, hi, rfl⟩ := List.mem_map.1 hr
      exact hro3 i hi)
     have hf4 := s.free hltW hfl
     refine ⟨_, _, run_endRound jump hl3, mr.turn _ hw1 hf4.1 hf4.2, ?_, fun d hd => ?_, fun d hd => ?_⟩
     ·rw [hrec]; exact World.putObj_heap_same (Array.getElem?_eq_some_iff.1 hl3).1
     ·have hfd := hfree d (List.mem_cons_of_mem _ hd)
      have hdl := (hms d hd).2.1
      exact (World.putObj_heap_other hdl).trans ((s.block d (Array.getElem?_eq_some_iff.1 (hmk d hd)).1 hfd.not hdl).trans (hmk d hd))
     ·refine s.free ?_ (hfree d hd)
      rcases List.mem_cons.1 hd with rfl | h
      ·exact hltW
      ·exact (Array.getElem?_eq_some_iff.1 (hmk d h)).1
    have stop : ∀ jc, jumpOf e3 = some jc → e3 ≠ .normal → ∃ v w', (Instr.endRound lp (some jc)).run P W3 = .ok v w' ∧ ((Ending.returned v = .returned (.bool true) ∧ J (k + 1) w') ∨ (Ending.returned v = .returned (.bool false) ∧ Jx w')) := fun jc hj hne => by
     rcases hcont with ⟨b', rfl, hr'⟩ | ⟨r', rfl, ho⟩
     ·exact absurd hp3.1 hne
     ·obtain ⟨_, h', hsub, hQ⟩ := hp3
      obtain ⟨E4, W4, h1, h2, h3, h4, h5⟩ := fin h' (some jc) hsub
      refine ⟨_, _, h1, .inr ⟨rfl, ?_⟩⟩
      rw [hJx]
      exact ⟨e3, jc, h', E4, r', hj, ho, hQ, h2, h3, h4, h5⟩
    cases e3 with
    | normal =>
     rcases hcont with ⟨b', rfl, hr'⟩ | ⟨r', rfl, ho⟩
     ·obtain ⟨_, hsub⟩ := hp3
      obtain ⟨E4, W4, h1, h2, h3, h4, h5⟩ := fin (Hst b') none hsub
      refine ⟨_, _, h1, .inl ⟨rfl, ?_⟩⟩
      rw [hJ]
      exact ⟨b', E4, hr', h2, h3, h4, h5⟩
     ·exact absurd rfl hp3.1
    | ret => exact stop _ rfl (by simp)
    | exit id => exact stop _ rfl (by simp)
    | goto t => exact stop _ rfl (by simp)
    | panic ch =>
     rcases hcont with ⟨b', rfl, hr'⟩ | ⟨r', rfl, ho⟩
     ·cases hp3.1
     ·exact absurd rfl hp3.1
    | outgrown =>
     rcases hcont with ⟨b', rfl, hr'⟩ | ⟨r', rfl, ho⟩
     ·cases hp3.1
     ·exact absurd rfl hp3.1
   | exit id => exact hq.elim
   | goto t => exact hq.elim
   | ret => exact hq.elim
   | panic ch => exact hq.elim
   | outgrown => exact hq.elim
  ·rintro e W2 ⟨⟨v, rfl⟩, h | h⟩
   ·rw [hJ] at h
    obtain ⟨b, E, hr, mm, hl, hmk, hfree⟩ := h
    have hfl := hfree lp (List.mem_cons_self ..)
    have ho : o = .go b := by
     rw [List.drop_of_length_le (by simp)] at hr
     injection hr with hr; exact hr.symm
    obtain ⟨ob, hob⟩ : ∃ ob, (Instr.endLoop lp).run P W2 = .ok none (W2.putObj lp ob) := ⟨_, by have := run_endLoop (P := P) hl (by rw [hrec]; simp); rw [show (rec .ready none).pending = none from by rw [hrec]] at this; exact this⟩
    obtain ⟨fx', hx', hM⟩ := behind (Hst b) E _ (mm.turn ob hw1 hfl.1 hfl.2) (fun d hd => (World.putObj_heap_other (hms d hd).2.1).trans (hmk d hd)) hfree
    refine ⟨none, _, hob, ?_⟩
    exact ⟨_, fx', by rw [ho]; exact ⟨rfl, Sub.refl _⟩, hx', hM⟩
   ·rw [hJx] at h
    obtain ⟨e, jc, h', E, r', hj, ho, hQ, mm, hl, hmk, hfree⟩ := h
    have hfl := hfree lp (List.mem_cons_self ..)
    obtain ⟨ob, hob⟩ : ∃ ob, (Instr.endLoop lp).run P W2 = .ok (some jc) (W2.putObj lp ob) := ⟨_, by have := run_endLoop (P := P) hl (by rw [hrec]; simp); rw [show (rec .done (some jc)).pending = some jc from by rw [hrec]] at this; exact this⟩
    obtain ⟨fx', hx', hM⟩ := behind h' E _ (mm.turn ob hw1 hfl.1 hfl.2) (fun d hd => (World.putObj_heap_other (hms d hd).2.1).trans (hmk d hd)) hfree
    refine ⟨some jc, _, hob, ?_⟩
    have hend : ∀ hne : e ≠ .normal, Aft fx (PostJ (fun b => mk nt rts l (Hst b)) r Q o) e { a with defers := ms.map coll ++ a.defers } (W2.putObj lp ob) := fun hne => ⟨_, fx', by rw [ho]; exact ⟨hne, hQ⟩, hx', hM⟩
    cases e with
    | ret => injection hj with hj; subst hj; exact wpIn_ret (hend (by simp))
    | exit id => injection hj with hj; subst hj; exact wpIn_exit (hend (by simp))
    | goto t => injection hj with hj; subst hj; exact wpIn_goto (hend (by simp))
    | normal => cases hj
    | panic ch => cases hj
    | outgrown => cases hj
end
end Go.Ab
end
section
namespace Go.Ab
open Go.RowKit

theorem FunC.of_calls {P : Program} {f : FuncId} {args : List V} {vals : List Value} {r : Value} (hv : ∀ E w vs, RVs E w args vs → vs = vals) (hr : plain r = true)
  (h : ∀ w, GW w → Calls P f vals.toArray w fun e w' => e = .returned r ∧ Grow w w') : FunC P f args (.d (.lit r)) :=
 ⟨rfl, fun w Z vs hgw hz hvs => by
  rw [hv _ _ _ hvs]
  refine (h w hgw).mono ?_
  rintro e w' ⟨rfl, hg⟩
  exact ⟨r, default, Z, .d (.lit r), none, rfl, ⟨rfl, rfl⟩, ⟨rfl, hr⟩, (fun blk hb => by cases hb), (fun b hb => ⟨.inl hb, Nat.lt_of_lt_of_le (hz b hb) hg.size⟩), hg⟩⟩
end Go.Ab
end
section
namespace Go.Ab
open Go.RowKit

/-- nil slices among a row's elements seen as empty ones -/
theorem RDs.wk {w : World} {Z : Nat → Prop} : ∀ {ds : List D} {vs : List Value}, RDs w Z ds vs → RDs w Z (ds.map D.wk) vs
 | [], _, h => h
 | _ :: _, _, ⟨v, r, h1, h2, h3⟩ => ⟨v, r, h1, RD.wk h2, RDs.wk h3⟩
theorem RDe.wk {w : World} {Z : Nat → Prop} : ∀ {es : List (List D)} {vs : List Value}, RDe w Z es vs → RDe w Z (es.map fun e => e.map D.wk) vs
 | [], _, h => h
 | _ :: _, _, ⟨a, r, h1, h2, h3⟩ => ⟨a, r, h1, RDs.wk h2, RDe.wk h3⟩
theorem Sub.wkRow {S : St} (id : Nat) {T n : Nat} {es : List (List D)} (hH : S.hp id = some (.arr T n es)) : Sub S (S.setH id (some (.arr T n (es.map fun e => e.map D.wk)))) := .of fun fx a w E md => by
 obtain ⟨g1, g2, g3, g4, g5⟩ := md.ok.hold _ _ hH
 have g3' : ∀ e ∈ es.map (fun e => e.map D.wk), e.length = n := fun e he => by
  obtain ⟨e', he', rfl⟩ := List.mem_map.1 he
  rw [List.length_map]; exact g3 e' he'
 rcases g5 with ⟨g6, rfl⟩ | ⟨hn, c, flat, k1, k2, k3, k4, k5, k6⟩
 ·have : S.setH id (some (.arr T n (([] : List (List D)).map fun e => e.map D.wk))) = S := by
   unfold St.setH
   congr 1
   funext i
   by_cases hi : i = id
   ·subst hi; rw [if_pos rfl, hH]; rfl
   ·rw [if_neg hi]
  rw [this]
  exact ⟨E, md⟩
 ·exact ⟨E, md.wr hH hn ⟨rfl, rfl, rfl, Nat.le_refl _, fun _ _ _ => rfl⟩ ⟨g1, g2, g3', g4, .inr ⟨hn, c, flat, k1, by rw [List.length_map]; exact k2, k3, k4, RDe.wk k5, by rw [List.length_map]; exact k6⟩⟩⟩
end Go.Ab
end
section
namespace Go.Ab
open Go.RowKit

def Env.xat (E : Env) (id : Nat) (X : Nat → Prop) : Env := E.at id { E.loc id with xs := X }
def Loc.like (ℓ ℓ' : Loc) : Prop := ℓ'.b = ℓ.b ∧ ℓ'.o = ℓ.o ∧ ℓ'.n = ℓ.n ∧ ℓ'.cap = ℓ.cap ∧ ℓ'.nil = ℓ.nil
theorem xat_like (E : Env) (id : Nat) (X : Nat → Prop) (i : Nat) : (E.loc i).like ((E.xat id X).loc i) := by
 unfold Env.xat Env.at Loc.like
 by_cases h : i = id
 ·subst h; simp
 ·simp [h]
theorem xat_other (E : Env) {id i : Nat} (X : Nat → Prop) (h : i ≠ id) : (E.xat id X).loc i = E.loc i := by simp [Env.xat, Env.at, h]
theorem xat_here (E : Env) (id : Nat) (X : Nat → Prop) : (E.xat id X).loc id = { E.loc id with xs := X } := by simp [Env.xat, Env.at]

mutual
theorem RV.like {E E' : Env} {w : World} (hz : ∀ b, E.Z b → E'.Z b) (hl : ∀ i, (E.loc i).like (E'.loc i)) : ∀ (c : V) (x : Value), RV E w c x → RV E' w c x
 | .d x, v, h => RD.keep (fun _ _ => rfl) hz x v h
 | .ref i off len, v, h => by
  obtain ⟨e1, e2, e3, e4, e5⟩ := hl i
  unfold RV at h ⊢
  rw [e1, e2, e3, e4, e5]
  exact h
 | .ptr i k off, v, h => by
  obtain ⟨e1, e2, e3, e4, e5⟩ := hl i
  unfold RV at h ⊢
  rw [e1, e2, e3, e5]
  exact h
 | .mref i, v, h => by
  obtain ⟨e1, _⟩ := hl i
  unfold RV at h ⊢
  rw [e1]
  exact h
 | .agg cs, v, ⟨vs, h1, h2, h3⟩ => ⟨vs, h1, h2, RVs.like hz hl cs vs h3⟩
 | .tup cs, v, ⟨vs, h1, h2⟩ => ⟨vs, h1, RVs.like hz hl cs vs h2⟩
 | .fn f cs, v, ⟨vs, h1, h2⟩ => ⟨vs, h1, RVs.like hz hl cs vs h2⟩
 | .dx es, v, h => ⟨RD.keep (fun _ _ => rfl) hz (.sl es) v h.1, h.2⟩
 | .hole, _, h => h
 | .junk, _, _ => trivial
theorem RVs.like {E E' : Env} {w : World} (hz : ∀ b, E.Z b → E'.Z b) (hl : ∀ i, (E.loc i).like (E'.loc i)) : ∀ (cs : List V) (vs : List Value), RVs E w cs vs → RVs E' w cs vs
 | [], _vs, h => h
 | c :: cs, _vs, ⟨v, r, h1, h2, h3⟩ => ⟨v, r, h1, RV.like hz hl c v h2, RVs.like hz hl cs r h3⟩
end
theorem REs.like {E E' : Env} {w : World} (hz : ∀ b, E.Z b → E'.Z b) (hl : ∀ i, (E.loc i).like (E'.loc i)) : ∀ (l : List (MKey × V)) (es : List MapEntry), REs E w l es → REs E' w l es
 | [], _es, h => h
 | (_k, v) :: l, _es, ⟨e, r, h1, h2, h3, h4, h5⟩ => ⟨e, r, h1, h2, RV.like hz hl v _ h3, h4, REs.like hz hl l r h5⟩
theorem Hold.like {E E' : Env} {w : World} (hz : ∀ b, E.Z b → E'.Z b) (hl : ∀ i, (E.loc i).like (E'.loc i)) {i : Nat} (hx : E'.loc i = E.loc i) {k : Blk} (h : Hold E w i k) : Hold E' w i k := by
 cases k with
 | arr T n es =>
  obtain ⟨h1, h2, h3, h4, h5⟩ := h
  unfold Hold
  rw [hx]
  refine ⟨h1, h2, h3, h4, h5.imp (fun h => h) ?_⟩
  rintro ⟨hn, c, flat, k1, k2, k3, k4, k5, k6⟩
  exact ⟨hn, c, flat, k1, k2, k3, k4, RDe.keep (fun _ _ => rfl) hz _ _ k5, k6⟩
 | nest T n sh es fo =>
  obtain ⟨h1, h2, h3, h4, hs, hfo, h5⟩ := h
  unfold Hold
  rw [hx]
  refine ⟨h1, h2, h3, h4, hs, hfo, h5.imp (fun h => h) ?_⟩
  rintro ⟨hn, c, flat, ls, k1, k2, k3, k4, k5, k6, k7⟩
  exact ⟨hn, c, flat, ls, k1, k2, k3, k4, RNe.to (E := E) (E' := E') hz (fun k cs hk => ⟨cs, hk, rfl, fun h => h, fun vs _ h => RVs.like hz hl cs vs h⟩) (fun k hk => hk) 0 es flat ls k5, k6, k7⟩
 | box cs =>
  obtain ⟨h1, h2, vs, h3, h4⟩ := h
  unfold Hold
  rw [hx]
  exact ⟨h1, h2, vs, RVs.like hz hl cs vs h3, h4⟩
 | mp kd l =>
  obtain ⟨h1, h2, es, clock, h3, h4, l', hp, h5⟩ := h
  unfold Hold
  rw [hx]
  exact ⟨h1, h2, es, clock, h3, h4, l', hp, REs.like hz hl l' _ h5⟩
 | hid p =>
  obtain ⟨h1, h2, h3, h4⟩ := h
  unfold Hold
  rw [hx]
  exact ⟨h1, h2, h3, h3 _ _ _ _ _ (fun _ _ => rfl) hz (fun _ _ => rfl) (Nat.le_refl _) h4⟩

theorem setH_get {S : St} {id : Nat} {blk : Option Blk} (h0 : S.hp id ≠ none) {i : Nat} (h : (S.setH id blk).hp i ≠ none) : S.hp i ≠ none := by
 simp only [St.setH] at h
 by_cases hi : i = id
 ·rw [hi]; exact h0
 ·rw [if_neg hi] at h; exact h

/-- the rows within are others, the world stays -/
theorem Mod.xs {fx : Fx} {S : St} {E : Env} {a : Act} {w : World} (m : Mod fx S E a w) {id : Nat} (hid : id ∉ S.rts) (h0 : S.hp id ≠ none) (X : Nat → Prop) {blk : Blk}
  (hX : ∀ b, X b → (E.loc id).xs b ∨ ((fx.w0.heap.size ≤ b ∨ fx.L b) ∧ ¬ E.Z b ∧ b < w.heap.size ∧ ∀ i, i ≠ id → S.hp i ≠ none → ¬ (E.loc i).own b)) (hold : Hold (E.xat id X) w id blk) :
  Mod fx (S.setH id (some blk)) (E.xat id X) a w := by
 have hl := xat_like E id X
 have get : ∀ i, (S.setH id (some blk)).hp i ≠ none → S.hp i ≠ none := fun i h => setH_get h0 h
 have key : ∀ i b, ((E.xat id X).loc i).own b → (E.loc i).own b ∨ (i = id ∧ (fx.w0.heap.size ≤ b ∨ fx.L b) ∧ ¬ E.Z b ∧ b < w.heap.size ∧ ∀ i, i ≠ id → S.hp i ≠ none → ¬ (E.loc i).own b) := fun i b h => by
  by_cases hi : i = id
  ·subst hi
   rw [xat_here] at h
   rcases h with h | h
   ·exact .inl (.inl h)
   ·exact (hX b h).imp .inr fun h => ⟨rfl, h⟩
  ·rw [xat_other E X hi] at h; exact .inl h
 refine ⟨m.nt, fun t => RV.like (E := E) (E' := E.xat id X) (fun _ h => h) hl _ _ (m.slots t), m.dfr, ⟨fun i k h => ?_, fun i j hi hj hij b h1 h2 => ?_, fun i hi b h => ?_, m.ok.zlt, fun i hi b h => ?_⟩, m.frame, fun i hi b h => ?_, m.z, fun r hr => ?_⟩
 ·simp only [St.setH] at h
  by_cases hi : i = id
  ·subst hi
   rw [if_pos rfl] at h
   injection h with h; subst h
   exact hold
  ·rw [if_neg hi] at h
   exact Hold.like (E := E) (E' := E.xat id X) (fun _ h => h) hl (xat_other E X hi) (m.ok.hold i k h)
 ·rcases key i b h1 with g1 | ⟨rfl, _, _, _, g1⟩
  ·rcases key j b h2 with g2 | ⟨rfl, _, _, _, g2⟩
   ·exact m.ok.inj i j (get i hi) (get j hj) hij b g1 g2
   ·exact g2 i hij (get i hi) g1
  ·rcases key j b h2 with g2 | ⟨rfl, _⟩
   ·exact g1 j (fun e => hij e.symm) (get j hj) g2
   ·exact hij rfl
 ·rcases key i b h with g | ⟨_, _, g, _⟩
  ·exact m.ok.apart i (get i hi) b g
  ·exact g
 ·rcases key i b (.inr h) with g | ⟨_, _, _, g, _⟩
  ·exact m.ok.own_lt (get i hi) g
  ·exact g
 ·rcases key i b h with g | ⟨_, g, _⟩
  ·exact m.mine i (get i hi) b g
  ·exact g
 ·obtain ⟨g1, g2⟩ := m.roots r hr
  exact ⟨g1, by rw [xat_other E X (fun e => hid (by rw [← e]; exact g1))]; exact g2⟩

theorem at_same (E : Env) (id : Nat) : E.at id (E.loc id) = E := by
 show Env.mk _ _ = Env.mk _ _
 congr 1
 funext i
 by_cases h : i = id
 ·subst h; simp
 ·simp [h]

/-! ### a plain row as one of rows, and back -/
/-- nothing within yet -/
def isNilD : D → Bool
 | .lit (.slice none 0 0) => true
 | _ => false
def nz : List (Option (TypeId × Nat)) → List D → Option (List D)
 | [], [] => some []
 | none :: sh, d :: ds => (nz sh ds).map (d :: ·)
 | some (_, n) :: sh, d :: ds => if isNilD d = true ∧ 0 < n then (nz sh ds).map (.sl [] :: ·) else none
 | _, _ => none
end Go.Ab
end
section
namespace Go.Ab
open Go.RowKit Go.MapKept

/-- the entries' values: rows of their own; the row at the key 'hole' is out -/
def MV (Z : Nat → Prop) (w : World) (T n : Nat) (hole : Option MKey) : List (MKey × List (List D)) → List MapEntry → List Loc → Prop
 | [], es, ls => es = [] ∧ ls = []
 | (k, r) :: l, es, ls => ∃ e es', es = e :: es' ∧ e.key = k.enc ∧ ((hole = some k ∧ MV Z w T n hole l es' ls) ∨ (hole ≠ some k ∧ ∃ ℓ ls', ls = ℓ :: ls' ∧ NCell ℓ Z w T n r e.val ∧ MV Z w T n hole l es' ls'))
def MR (kd : TypeDesc) (T n : Nat) (l : List (MKey × List (List D))) (hole : Option MKey) : (Nat → Prop) → Loc → World → Prop := fun Z ℓ w =>
 ℓ.nil = false ∧ (∀ p ∈ l, p.1.desc = kd) ∧ ∃ es clock ls, w.heap[ℓ.b]? = some (.map es clock) ∧ Stamped es clock ∧ MV Z w T n hole l es.toList ls ∧ NDis ℓ ls

def rlk : List (MKey × List (List D)) → MKey → Option (List (List D))
 | [], _ => none
 | (q, r) :: l, k => if q = k then some r else rlk l k
def rput : List (MKey × List (List D)) → MKey → List (List D) → List (MKey × List (List D))
 | [], k, r => [(k, r)]
 | (q, x) :: l, k, r => if q = k then (k, r) :: l else (q, x) :: rput l k r

theorem NCell.keep {ℓ : Loc} {Z Z' : Nat → Prop} {w w' : World} {T n : Nat} {es : List (List D)} {v : Value} (hk : Keeps Z w w') (hz : ∀ b, Z b → Z' b) (hb : ℓ.nil = false → w'.heap[ℓ.b]? = w.heap[ℓ.b]?) (h : NCell ℓ Z w T n es v) : NCell ℓ Z' w' T n es v := by
 have h1 : RNs w Z [some (T, n)] [.sl es] [v] [ℓ] := ⟨es, [], v, [], ℓ, [], rfl, rfl, rfl, h, rfl, rfl, rfl⟩
 obtain ⟨es', ds, v', r, ℓ', ls, e1, e2, e3, h2, _⟩ := RNs.keep (w' := w') hk hz _ _ _ _ (fun b hm => by
  unfold blks at hm
  rw [List.filterMap_cons] at hm
  split at hm
  ·cases hm
  ·rename_i x hx
   split at hx
   ·cases hx
   ·rename_i hn
    injection hx with hx
    subst hx
    rcases List.mem_cons.1 hm with rfl | hm
    ·exact hb (by simpa using hn)
    ·cases hm) h1
 injection e1 with e1 _
 injection e1 with e1
 injection e2 with e2 _
 injection e3 with e3 _
 subst e1 e2 e3
 exact h2
theorem blks_cons (ℓ : Loc) (ls : List Loc) : blks (ℓ :: ls) = blks [ℓ] ++ blks ls := by
 rw [← blks_append]; rfl
theorem blks_one {ℓ : Loc} (h : ℓ.nil = false) : blks [ℓ] = [ℓ.b] := by simp [blks, h]
theorem MV.keep {Z Z' : Nat → Prop} {w w' : World} {T n : Nat} {hole : Option MKey} (hk : Keeps Z w w') (hz : ∀ b, Z b → Z' b) : ∀ {l : List (MKey × List (List D))} {es : List MapEntry} {ls : List Loc}, (∀ b ∈ blks ls, w'.heap[b]? = w.heap[b]?) → MV Z w T n hole l es ls → MV Z' w' T n hole l es ls
 | [], _, _, _, h => h
 | (k, r) :: l, _, ls, hb, ⟨e, es', h1, h2, h3⟩ => by
  refine ⟨e, es', h1, h2, ?_⟩
  rcases h3 with ⟨g1, g2⟩ | ⟨g1, ℓ, ls', rfl, g2, g3⟩
  ·exact .inl ⟨g1, MV.keep hk hz hb g2⟩
  ·rw [blks_cons] at hb
   exact .inr ⟨g1, ℓ, ls', rfl, g2.keep hk hz fun hn => hb _ (List.mem_append_left _ (by rw [blks_one hn]; exact .head _)), MV.keep hk hz (fun b h => hb b (List.mem_append_right _ h)) g3⟩
theorem MR.stab (kd : TypeDesc) (T n : Nat) (l : List (MKey × List (List D))) (hole : Option MKey) : Stab (MR kd T n l hole) := fun Z Z' ℓ w w' hk hz hb _ h => by
 obtain ⟨h1, h2, es, clock, ls, h3, h4, h5, h6⟩ := h
 exact ⟨h1, h2, es, clock, ls, (hb _ (Loc.here h1)).trans h3, h4, h5.keep hk hz fun b hm => hb b (.inr (h6.2 b hm).1), h6⟩
theorem MV.keys {Z : Nat → Prop} {w : World} {T n : Nat} {hole : Option MKey} {kd : TypeDesc} : ∀ {l : List (MKey × List (List D))} {es : List MapEntry} {ls : List Loc}, (∀ p ∈ l, p.1.desc = kd) → MV Z w T n hole l es ls → ∀ x ∈ es, IsKey kd x.key
 | [], _, _, _, h, x, hx => by rw [h.1] at hx; cases hx
 | (k, r) :: l, _, ls, hd, ⟨e, es', h1, h2, h3⟩, x, hx => by
  subst h1
  rcases List.mem_cons.1 hx with rfl | hx
  ·rw [h2, ← hd (k, r) (.head _)]; exact k.isKey
  ·rcases h3 with ⟨_, g2⟩ | ⟨_, ℓ, ls', _, _, g3⟩
   ·exact g2.keys (fun p hp => hd p (.tail _ hp)) x hx
   ·exact g3.keys (fun p hp => hd p (.tail _ hp)) x hx
theorem find_now {kd : TypeDesc} {k : MKey} (hkd : k.desc = kd) : ∀ {es : List MapEntry} (i : Nat), (∀ x ∈ es, IsKey kd x.key) →
  (Instr.findNow kd k.enc es i = some none ∧ ∀ x ∈ es, x.key ≠ k.enc) ∨ ∃ (j : Nat) (e : MapEntry), Instr.findNow kd k.enc es i = some (some (i + j, e.val)) ∧ es[j]? = some e ∧ e.key = k.enc
 | [], i, _ => .inl ⟨rfl, fun x hx => by cases hx⟩
 | e :: es, i, hk => by
  have hq := hk e (.head _)
  have hkk : IsKey kd k.enc := by rw [← hkd]; exact k.isKey
  obtain ⟨b, hb, hiff⟩ := sameNow_of_keys hkk hq
  cases b with
  | true => exact .inr ⟨0, e, by simp [Instr.findNow, hb], rfl, (hiff.1 rfl).symm⟩
  | false =>
   rcases find_now hkd (es := es) (i + 1) (fun x hx => hk x (.tail _ hx)) with ⟨g1, g2⟩ | ⟨j, e', g1, g2, g3⟩
   ·refine .inl ⟨by simp [Instr.findNow, hb, g1], fun x hx => ?_⟩
    rcases List.mem_cons.1 hx with rfl | hx
    ·intro e2
     have := hiff.2 e2.symm
     cases this
    ·exact g2 x hx
   ·refine .inr ⟨j + 1, e', ?_, by simpa using g2, g3⟩
    rw [show i + 1 + j = i + (j + 1) by omega] at g1
    simp [Instr.findNow, hb, g1]
theorem MV.fill {Z : Nat → Prop} {w : World} {T n : Nat} {k : MKey} : ∀ {l : List (MKey × List (List D))} {es : List MapEntry} {ls : List Loc}, (∀ e ∈ es, e.key ≠ k.enc) → (MV Z w T n none l es ls ↔ MV Z w T n (some k) l es ls)
 | [], _, _, _ => Iff.rfl
 | (q, r) :: l, es, ls, hne => by
  constructor
  ·rintro ⟨e, es', h1, h2, h3⟩
   subst h1
   have hq : q ≠ k := fun h => hne e (.head _) (by rw [h2, h])
   rcases h3 with ⟨g1, _⟩ | ⟨_, ℓ, ls', g2, g3, g4⟩
   ·cases g1
   ·exact ⟨e, es', rfl, h2, .inr ⟨fun h => hq (by injection h with h; exact h.symm), ℓ, ls', g2, g3, (MV.fill fun x hx => hne x (.tail _ hx)).1 g4⟩⟩
  ·rintro ⟨e, es', h1, h2, h3⟩
   subst h1
   have hq : q ≠ k := fun h => hne e (.head _) (by rw [h2, h])
   rcases h3 with ⟨g1, _⟩ | ⟨_, ℓ, ls', g2, g3, g4⟩
   ·injection g1 with g1; exact absurd g1.symm hq
   ·exact ⟨e, es', rfl, h2, .inr ⟨(by simp), ℓ, ls', g2, g3, (MV.fill fun x hx => hne x (.tail _ hx)).2 g4⟩⟩

theorem MV.open {Z : Nat → Prop} {w : World} {T n : Nat} {k : MKey} : ∀ {l : List (MKey × List (List D))} {es : List MapEntry} {ls : List Loc}, (es.map (·.key)).Nodup → MV Z w T n none l es ls →
  (rlk l k = none ∧ ∀ e ∈ es, e.key ≠ k.enc) ∨ ∃ (r : List (List D)) (j : Nat) (e : MapEntry) (l1 : List Loc) (ℓ : Loc) (l2 : List Loc), rlk l k = some r ∧ es[j]? = some e ∧ e.key = k.enc ∧ ls = l1 ++ ℓ :: l2 ∧ NCell ℓ Z w T n r e.val ∧ MV Z w T n (some k) l es (l1 ++ l2)
 | [], es, ls, _, h => .inl ⟨rfl, fun e he => by rw [h.1] at he; cases he⟩
 | (q, x) :: l, es, ls, hn, ⟨e, es', h1, h2, h3⟩ => by
  subst h1
  rw [List.map_cons, List.nodup_cons] at hn
  rcases h3 with ⟨g1, _⟩ | ⟨_, ℓ, ls', rfl, g3, g4⟩
  ·cases g1
  by_cases hq : q = k
  ·subst hq
   refine .inr ⟨x, 0, e, [], ℓ, ls', by simp [rlk], rfl, h2, rfl, g3, e, es', rfl, h2, .inl ⟨rfl, ?_⟩⟩
   exact (MV.fill fun y hy e2 => hn.1 (by rw [h2, ← e2]; exact List.mem_map.2 ⟨y, hy, rfl⟩)).1 g4
  ·rcases MV.open (k := k) hn.2 g4 with ⟨p1, p2⟩ | ⟨r, j, e', l1, ℓ', l2, p1, p2, p3, p4, p5, p6⟩
   ·refine .inl ⟨by simp [rlk, hq, p1], fun y hy => ?_⟩
    rcases List.mem_cons.1 hy with rfl | hy
    ·rw [h2]; exact fun e2 => hq (MKey.inj e2)
    ·exact p2 y hy
   ·subst p4
    exact .inr ⟨r, j + 1, e', ℓ :: l1, ℓ', l2, by simp [rlk, hq, p1], by simpa using p2, p3, rfl, p5, e, es', rfl, h2, .inr ⟨fun h => hq (by injection h with h; exact h.symm), ℓ, l1 ++ l2, rfl, g3, p6⟩⟩
theorem MV.push {Z : Nat → Prop} {w : World} {T n : Nat} {k : MKey} {r : List (List D)} {ℓ : Loc} {e0 : MapEntry} (hk : e0.key = k.enc) (hv : NCell ℓ Z w T n r e0.val) : ∀ {l : List (MKey × List (List D))} {es : List MapEntry} {ls : List Loc}, (∀ e ∈ es, e.key ≠ k.enc) → MV Z w T n none l es ls → MV Z w T n none (rput l k r) (es ++ [e0]) (ls ++ [ℓ])
 | [], es, ls, _, h => by
  obtain ⟨rfl, rfl⟩ := h
  exact ⟨e0, [], rfl, hk, .inr ⟨by simp, ℓ, [], rfl, hv, rfl, rfl⟩⟩
 | (q, x) :: l, es, ls, hne, ⟨e, es', h1, h2, h3⟩ => by
  subst h1
  have hq : ¬ q = k := fun h => hne e (.head _) (by rw [h2, h])
  rcases h3 with ⟨g1, _⟩ | ⟨_, ℓ', ls', rfl, g3, g4⟩
  ·cases g1
  unfold rput
  rw [if_neg hq]
  exact ⟨e, es' ++ [e0], rfl, h2, .inr ⟨by simp, ℓ', ls' ++ [ℓ], rfl, g3, MV.push hk hv (fun y hy => hne y (.tail _ hy)) g4⟩⟩
theorem MV.set {Z : Nat → Prop} {w : World} {T n : Nat} {k : MKey} {r : List (List D)} {ℓ : Loc} {e0 : MapEntry} (hk : e0.key = k.enc) (hv : NCell ℓ Z w T n r e0.val) : ∀ {l : List (MKey × List (List D))} {es : List MapEntry} {ls : List Loc} {j : Nat} {e : MapEntry}, (es.map (·.key)).Nodup → es[j]? = some e → e.key = k.enc → MV Z w T n (some k) l es ls →
  ∃ l1 l2, ls = l1 ++ l2 ∧ MV Z w T n none (rput l k r) (es.set j e0) (l1 ++ ℓ :: l2)
 | [], es, ls, j, e, _, hj, _, h => by rw [h.1] at hj; cases hj
 | (q, x) :: l, es, ls, j, e, hn, hj, hek, ⟨e1, es', h1, h2, h3⟩ => by
  subst h1
  rw [List.map_cons, List.nodup_cons] at hn
  by_cases hq : q = k
  ·subst hq
   have hj0 : j = 0 := by
    cases j with
    | zero => rfl
    | succ j =>
     exfalso
     rw [List.getElem?_cons_succ] at hj
     exact hn.1 (by rw [h2, ← hek]; exact List.mem_map.2 ⟨e, List.mem_of_getElem? hj, rfl⟩)
   subst hj0
   rcases h3 with ⟨_, g2⟩ | ⟨g1, _⟩
   ·refine ⟨[], ls, rfl, ?_⟩
    unfold rput
    rw [if_pos rfl]
    refine ⟨e0, es', rfl, hk, .inr ⟨by simp, ℓ, ls, rfl, hv, (MV.fill fun y hy e2 => hn.1 (by rw [h2, ← e2]; exact List.mem_map.2 ⟨y, hy, rfl⟩)).2 g2⟩⟩
   ·exact absurd rfl g1
  ·have hq' : (some k : Option MKey) ≠ some q := fun h => hq (by injection h with h; exact h.symm)
   rcases h3 with ⟨g1, _⟩ | ⟨_, ℓ', ls', rfl, g3, g4⟩
   ·exact absurd g1 hq'
   cases j with
   | zero =>
    exfalso
    rw [List.getElem?_cons_zero] at hj
    injection hj with hj
    subst hj
    exact hq (MKey.inj (h2.symm.trans hek))
   | succ j =>
    rw [List.getElem?_cons_succ] at hj
    obtain ⟨l1, l2, rfl, p2⟩ := MV.set hk hv hn.2 hj hek g4
    refine ⟨ℓ' :: l1, l2, rfl, ?_⟩
    unfold rput
    rw [if_neg hq]
    exact ⟨e1, es'.set j e0, rfl, h2, .inr ⟨by simp, ℓ', l1 ++ ℓ :: l2, rfl, g3, p2⟩⟩
theorem rput_keys {kd : TypeDesc} {k : MKey} (hk : k.desc = kd) {r : List (List D)} : ∀ {l : List (MKey × List (List D))}, (∀ p ∈ l, p.1.desc = kd) → ∀ p ∈ rput l k r, p.1.desc = kd
 | [], _, p, hp => by
  obtain rfl := List.mem_singleton.1 hp
  exact hk
 | (q, x) :: l, h, p, hp => by
  unfold rput at hp
  split at hp
  ·rcases List.mem_cons.1 hp with rfl | hp
   ·exact hk
   ·exact h p (.tail _ hp)
  ·rcases List.mem_cons.1 hp with rfl | hp
   ·exact h _ (.head _)
   ·exact rput_keys hk (fun p hp => h p (.tail _ hp)) p hp

/-- the rows within go over to what stays -/
theorem Mod.xsZ {fx : Fx} {S : St} {E : Env} {a : Act} {w : World} (m : Mod fx S E a w) {id : Nat} (hid' : id ∉ S.rts) (h0 : S.hp id ≠ none) {blk : Blk}
  (hold : Hold ⟨(E.xat id fun _ => False).loc, fun b => E.Z b ∨ ((E.loc id).xs b ∧ ((E.loc id).nil = false → (E.loc id).b ≠ b))⟩ w id blk) :
  Mod fx (S.setH id (some blk)) ⟨(E.xat id fun _ => False).loc, fun b => E.Z b ∨ ((E.loc id).xs b ∧ ((E.loc id).nil = false → (E.loc id).b ≠ b))⟩ a w := by
 have hl := xat_like E id (fun _ => False)
 have get : ∀ i, (S.setH id (some blk)).hp i ≠ none → S.hp i ≠ none := fun i h => setH_get h0 h
 have key : ∀ i b, ((E.xat id (fun _ => False)).loc i).own b → (E.loc i).own b ∧ (i = id → ¬ (E.loc id).xs b ∨ (E.loc id).b = b) := fun i b h => by
  by_cases hi : i = id
  ·subst hi
   rw [xat_here] at h
   rcases h with h | h
   ·exact ⟨.inl h, fun _ => .inr h.2⟩
   ·exact h.elim
  ·rw [xat_other E _ hi] at h; exact ⟨h, fun e => absurd e hi⟩
 refine ⟨m.nt, fun t => RV.like (E := E) (E' := ⟨(E.xat id fun _ => False).loc, fun b => E.Z b ∨ ((E.loc id).xs b ∧ ((E.loc id).nil = false → (E.loc id).b ≠ b))⟩) (fun _ h => .inl h) hl _ _ (m.slots t), m.dfr, ⟨fun i k h => ?_, fun i j hi hj hij b g1 g2 => m.ok.inj i j (get i hi) (get j hj) hij b (key i b g1).1 (key j b g2).1, fun i hi b h hz => ?_, fun b hb => ?_, fun i hi b h => ?_⟩, m.frame, fun i hi b h => m.mine i (get i hi) b (key i b h).1, fun b hb => ?_, fun r hr => ?_⟩
 ·simp only [St.setH] at h
  by_cases hi : i = id
  ·subst hi
   rw [if_pos rfl] at h
   injection h with h; subst h
   exact hold
  ·rw [if_neg hi] at h
   exact Hold.like (E := E) (E' := ⟨(E.xat id fun _ => False).loc, fun b => E.Z b ∨ ((E.loc id).xs b ∧ ((E.loc id).nil = false → (E.loc id).b ≠ b))⟩) (fun _ h => .inl h) hl (xat_other E _ hi) (m.ok.hold i k h)
 ·obtain ⟨g1, g2⟩ := key i b h
  rcases hz with hz | ⟨hz, hz2⟩
  ·exact m.ok.apart i (get i hi) b g1 hz
  ·by_cases hi2 : i = id
   ·subst hi2
    rw [show (⟨(E.xat i fun _ => False).loc, _⟩ : Env).loc i = { E.loc i with xs := fun _ => False } from xat_here E i _] at h
    rcases h with ⟨q1, q2⟩ | h
    ·exact hz2 q1 q2
    ·exact h
   ·exact m.ok.inj i id (get i hi) h0 hi2 b g1 (.inr hz)
 ·rcases hb with hb | hb
  ·exact m.ok.zlt b hb
  ·exact m.ok.xlt id h0 b hb.1
 ·exact m.ok.own_lt (get i hi) (key i b (.inr h)).1
 ·rcases hb with hb | hb
  ·exact m.z b hb
  ·exact .inr (m.mine id h0 b (.inr hb.1))
 ·obtain ⟨g1, g2⟩ := m.roots r hr
  exact ⟨g1, by rw [show (⟨(E.xat id fun _ => False).loc, _⟩ : Env).loc r.1 = E.loc r.1 from xat_other E _ (fun e => hid' (by rw [← e]; exact g1))]; exact g2⟩

theorem MV.data {E : Env} {Z Z' : Nat → Prop} {w : World} {T n : Nat} (hz : ∀ b, Z b → Z' b) (hE : E.Z = Z') : ∀ {l : List (MKey × List (List D))} {es : List MapEntry} {ls : List Loc}, (∀ b ∈ blks ls, Z' b) → MV Z w T n none l es ls → REs E w (l.map fun p => (p.1, V.d (.sl p.2))) es
 | [], _, _, _, h => h.1
 | (k, r) :: l, _, _, hb, ⟨e, es', h1, h2, h3⟩ => by
  rcases h3 with ⟨g1, _⟩ | ⟨_, ℓ, ls', rfl, g3, g4⟩
  ·cases g1
  ·rw [blks_cons] at hb
   refine ⟨e, es', h1, h2, ?_, rfl, g4.data hz hE fun b h => hb b (List.mem_append_right _ h)⟩
   show RD w E.Z (.sl r) e.val
   rw [hE]
   exact g3.data hz fun hn => hb _ (List.mem_append_left _ (by rw [blks_one hn]; exact .head _))
/-- a map of rows, as it stays from now on -/
theorem Sub.mrFreeze {S : St} (id : Nat) {kd : TypeDesc} {T n : Nat} {l : List (MKey × List (List D))} (hid : S.rts.contains id = false) (hH : S.hp id = some (.hid (MR kd T n l none))) : Sub S (S.setH id (some (.mp kd (l.map fun p => (p.1, V.d (.sl p.2)))))) := .of fun fx a w E m => by
 have h0 : S.hp id ≠ none := by rw [hH]; simp
 obtain ⟨h1, h2, h3, _, h4, es, clock, ls, h5, h6, h7, h8⟩ := m.ok.hold id _ hH
 refine ⟨_, m.xsZ (by simpa using hid) h0 ?_⟩
 unfold Hold
 rw [show (⟨(E.xat id fun _ => False).loc, _⟩ : Env).loc id = { E.loc id with xs := fun _ => False } from xat_here E id _]
 refine ⟨h1, fun p hp => ?_, es, clock, h5, h6, _, .refl _, h7.data (Z' := fun b => E.Z b ∨ ((E.loc id).xs b ∧ ((E.loc id).nil = false → (E.loc id).b ≠ b))) (fun _ h => .inl h) rfl fun b hb => .inr (h8.2 b hb)⟩
 obtain ⟨q, hq, rfl⟩ := List.mem_map.1 hp
 exact h4 q hq
/-- a new map is a map of rows -/
theorem Sub.mrMake {S : St} (id : Nat) {kd : TypeDesc} (T n : Nat) (hH : S.hp id = some (.mp kd [])) : Sub S (S.setH id (some (.hid (MR kd T n [] none)))) := .of fun fx a w E m => by
 obtain ⟨h1, h2, es, clock, h5, h6, l', hp, h7⟩ := m.ok.hold id _ hH
 have : l' = [] := List.Perm.nil_eq hp.symm |>.symm
 subst this
 exact ⟨E, m.wr hH h1 ⟨rfl, rfl, rfl, Nat.le_refl _, fun _ _ _ => rfl⟩ ⟨h1, (Array.getElem?_eq_some_iff.1 h5).1, MR.stab _ _ _ _ _, h1, (fun p hp => by cases hp), es, clock, [], h5, h6, ⟨h7, rfl⟩, List.nodup_nil, fun b hb => by cases hb⟩⟩

/-- A LOOK-UP that takes the row out -/
theorem Chain.lookOpen {P : Program} {ops : Array Oper} {o : Oper} {l : List Oper} {S : St} {Q : St → Prop} {T : TypeId} {m i : Operand} {id d e n : Nat} {kd : TypeDesc} {rows : List (MKey × List (List D))} {k : MKey} {kt et : TypeId} {ti tk te : TI} (hw : wantedV ops S o = some true) (ho : o.op = .lookup T m i false)
  (hT : tyOf P T = some ti) (hd : ti.desc = .map kt et) (hkt : tyOf P kt = some tk) (hkd : tk.desc = kd) (het : tyOf P et = some te) (hz : te.zero = .slice none 0 0) (hm : S.ev m = .mref id) (hH : S.hp id = some (.hid (MR kd e n rows none))) (hk : keyV (S.ev i) = some k) (hkk : k.desc = kd) (hn : 0 < n)
  (hdst : o.dst = some d) (hdr : S.rts.contains d = false) (hir : S.rts.contains id = false) (hne : d ≠ id)
  (h : Chain false P ops l ((((S.setH id (some (.hid (MR kd e n rows (some k))))).kill d).setH d (some (.arr e n ((rlk rows k).getD [])))).put (some d) (.ref d 0 ((rlk rows k).getD []).length)) Q) : Chain false P ops (o :: l) S Q := by
 intro fx a w Q' ⟨E, md⟩ hq
 unfold wpList
 rw [if_pos (wantedV_sound md hw)]
 refine .inl ?_
 have hmv := md.ev m
 rw [hm] at hmv
 have hmv : a.eval m = .map (some (E.loc id).b) := hmv
 have hiv := keyV_sound (md.ev i) hk
 have h0 : S.hp id ≠ none := by rw [hH]; simp
 have hdr' : d ∉ S.rts := by simpa using hdr
 have hir' : id ∉ S.rts := by simpa using hir
 obtain ⟨hnil, hlt, _, _, hkeys, es, clock, ls, hb, hst, hmv2, hdis⟩ := md.ok.hold _ _ hH
 have hu : P.underlying T = some (.map kt et) := by rw [(tyOf_spec hT).1, hd]
 have huk : P.underlying kt = some k.desc := by rw [(tyOf_spec hkt).1, hkd, hkk]
 have hik := MV.keys hkeys hmv2
 have go : ∀ {S' : St} {E' : Env} (x : Value), (Instr.lookup T (a.eval m) (a.eval i) false).run P w = .ok x w → Mod fx S' E' a w → RV E' w (.ref d 0 ((rlk rows k).getD []).length) x → S' = ((S.setH id (some (.hid (MR kd e n rows (some k))))).kill d).setH d (some (.arr e n ((rlk rows k).getD []))) → o.wp P a w (wpList P ops Q' l) Q' := by
  intro S' E' x hrun m' hx hS
  subst hS
  unfold Oper.wp execOp
  simp only [ho, Sem.run_bind, hrun, Result.andThen_ok, Sem.run_pure, Oper.upon, hdst]
  exact h fx _ _ Q' ⟨E', m'.put (some d) hx⟩ hq
 rcases MV.open (k := k) hst.2.2 hmv2 with ⟨p1, p2⟩ | ⟨r, j, e1, l1, ℓ, l2, p1, p2, p3, p4, p5, p6⟩
 ·-- the key is not there
  have m1 := md.wr hH hnil (w' := w) ⟨rfl, rfl, rfl, Nat.le_refl _, fun _ _ _ => rfl⟩ (blk := .hid (MR kd e n rows (some k))) ⟨hnil, hlt, MR.stab _ _ _ _ _, hnil, hkeys, es, clock, ls, hb, hst, (MV.fill p2).1 hmv2, hdis⟩
  have m2 := m1.re0 (id := d) (row := none) hdr' (w' := w) ⟨rfl, rfl, rfl, Nat.le_refl _, fun _ _ _ => rfl⟩ (fun b hb => by cases hb) ⟨0, 0, n, 0, true, fun _ => False⟩ (blk := .arr e n []) (by
   unfold Hold
   simp [Env.at, hn]) (fun b hob => by
    rcases hob with ⟨q1, _⟩ | q
    ·cases q1
    ·exact q.elim)
  refine go (.slice none 0 0) ?_ m2 ?_ (by rw [p1]; rfl)
  ·rcases find_now hkk 0 hik with ⟨g1, _⟩ | ⟨j, e1, _, g2, g3⟩
   ·rw [← hkk] at g1
    rw [hmv, hiv, ← hz]
    simp [Instr.lookup, run_underlying hu, MapKept.run_getObj_map hb, MapKept.run_checkKey huk k.isKey, run_findKey huk g1, run_zero het w]
   ·exact absurd g3 (p2 e1 (List.mem_of_getElem? g2))
  ·rw [p1]
   exact .inl ⟨by simp [Env.at], rfl, rfl, rfl⟩
 ·-- the row goes out
  subst p4
  obtain ⟨hd1, hd2⟩ := hdis
  rw [blks_append, blks_cons] at hd1
  have n1 := List.nodup_append.1 hd1
  have n2 := List.nodup_append.1 n1.2.1
  have dis : NDis { E.loc id with xs := fun b => (E.loc id).xs b ∧ b ∉ blks [ℓ] } (l1 ++ l2) := by
   refine ⟨?_, fun b hb => ?_⟩
   ·rw [blks_append]
    exact List.nodup_append.2 ⟨n1.1, n2.2.1, fun x hx y hy => n1.2.2 x hx y (List.mem_append_right _ hy)⟩
   ·rw [blks_append] at hb
    have hin : b ∈ blks (l1 ++ ℓ :: l2) := by
     rw [blks_append, blks_cons]
     exact (List.mem_append.1 hb).elim (fun h => List.mem_append_left _ h) (fun h => List.mem_append_right _ (List.mem_append_right _ h))
    refine ⟨⟨(hd2 b hin).1, fun hla => ?_⟩, (hd2 b hin).2⟩
    rcases List.mem_append.1 hb with h | h
    ·exact n1.2.2 b h b (List.mem_append_left _ hla) rfl
    ·exact n2.2.2 b hla b h rfl
  have m1 := md.xs hir' h0 (fun b => (E.loc id).xs b ∧ b ∉ blks [ℓ]) (blk := .hid (MR kd e n rows (some k))) (fun b hb => .inl hb.1) (by
   unfold Hold
   rw [xat_here]
   exact ⟨hnil, hlt, MR.stab _ _ _ _ _, hnil, hkeys, es, clock, l1 ++ l2, hb, hst, p6, dis⟩)
  have lone : ℓ.nil = false → (fx.w0.heap.size ≤ ℓ.b ∨ fx.L ℓ.b) ∧ ¬ E.Z ℓ.b ∧ ℓ.b < w.heap.size ∧ ∀ j, (S.setH id (some (.hid (MR kd e n rows (some k))))).hp j ≠ none → ¬ ((E.xat id fun b => (E.loc id).xs b ∧ b ∉ blks [ℓ]).loc j).own ℓ.b := fun hl => by
   have hin : ℓ.b ∈ blks (l1 ++ ℓ :: l2) := by
    rw [blks_append, blks_cons, blks_one hl]; exact List.mem_append_right _ (List.mem_append_left _ (.head _))
   obtain ⟨x1, x2⟩ := hd2 ℓ.b hin
   refine ⟨md.mine id h0 ℓ.b (.inr x1), md.ok.apart id h0 ℓ.b (.inr x1), md.ok.xlt id h0 ℓ.b x1, fun j hj hown => ?_⟩
   by_cases hji : j = id
   ·subst hji
    rw [xat_here] at hown
    rcases hown with ⟨y1, y2⟩ | y
    ·exact x2 y1 y2
    ·exact y.2 (by rw [blks_one hl]; exact .head _)
   ·rw [xat_other E _ hji] at hown
    exact md.ok.inj j id (setH_get h0 hj) h0 hji ℓ.b hown (.inr x1)
  obtain ⟨v1, v2⟩ := p5
  have m2 := m1.re0 (id := d) (row := none) hdr' (w' := w) ⟨rfl, rfl, rfl, Nat.le_refl _, fun _ _ _ => rfl⟩ (fun b hb => by cases hb) { ℓ with xs := fun _ => False } (blk := .arr e n r) (by
   unfold Hold
   simp only [Env.at, if_true]
   exact v2) (fun b hob => by
    rcases hob with ⟨q1, q2⟩ | q
    ·have q1 : ℓ.nil = false := q1
     have q2 : ℓ.b = b := q2
     subst q2
     obtain ⟨y1, y2, y3, y4⟩ := lone q1
     exact ⟨y1, y2, y3, fun i _ hi => y4 i hi⟩
    ·exact q.elim)
  refine go e1.val ?_ m2 ?_ (by rw [p1]; rfl)
  ·rcases find_now hkk 0 hik with ⟨_, g2⟩ | ⟨j', e2, g1, g2, g3⟩
   ·exact absurd p3 (g2 e1 (List.mem_of_getElem? p2))
   ·have hjj : j' = j := by
     have q1 : (es.toList.map (·.key))[j']? = some k.enc := by rw [List.getElem?_map, g2, Option.map_some, g3]
     have q2 : (es.toList.map (·.key))[j]? = some k.enc := by rw [List.getElem?_map, p2, Option.map_some, p3]
     exact (List.getElem?_inj (List.getElem?_eq_some_iff.1 q1).1 hst.2.2).1 (q1.trans q2.symm)
    subst hjj
    rw [p2] at g2
    injection g2 with g2
    subst g2
    rw [← hkk] at g1
    rw [hmv, hiv]
    simp [Instr.lookup, run_underlying hu, MapKept.run_getObj_map hb, MapKept.run_checkKey huk k.isKey, run_findKey huk g1]
  ·rw [p1]
   unfold RV at v1 ⊢
   rw [show ((E.xat id fun b => (E.loc id).xs b ∧ b ∉ blks [ℓ]).at d { ℓ with xs := fun _ => False }).loc d = { ℓ with xs := fun _ => False } by simp [Env.at]]
   exact v1
end Go.Ab
end
section
namespace Go.Ab
open Go.RowKit Go.MapKept

theorem NDis.add {ℓ0 ℓ : Loc} {l1 l2 : List Loc} (h : NDis ℓ0 (l1 ++ l2)) (hx : ∀ b ∈ blks [ℓ], ¬ ℓ0.xs b ∧ (ℓ0.nil = false → ℓ0.b ≠ b)) : NDis { ℓ0 with xs := fun b => ℓ0.xs b ∨ b ∈ blks [ℓ] } (l1 ++ ℓ :: l2) := by
 obtain ⟨h1, h2⟩ := h
 rw [blks_append] at h1
 have n1 := List.nodup_append.1 h1
 have d1 : ∀ x ∈ blks [ℓ], ∀ y ∈ blks (l1 ++ l2), x ≠ y := fun x hx1 y hy e => (hx x hx1).1 (e ▸ (h2 y hy).1)
 refine ⟨?_, fun b hb => ?_⟩
 ·rw [blks_append, blks_cons]
  refine List.nodup_append.2 ⟨n1.1, List.nodup_append.2 ⟨?_, n1.2.1, fun x hx1 y hy => d1 x hx1 y (by rw [blks_append]; exact List.mem_append_right _ hy)⟩, fun x hx1 y hy => ?_⟩
  ·unfold blks
   rw [List.filterMap_cons]
   split <;> simp
  ·rcases List.mem_append.1 hy with hy | hy
   ·exact fun e => d1 y hy x (by rw [blks_append]; exact List.mem_append_left _ hx1) e.symm
   ·exact n1.2.2 x hx1 y hy
 ·rw [blks_append, blks_cons] at hb
  have old : b ∈ blks (l1 ++ l2) → (ℓ0.xs b ∨ b ∈ blks [ℓ]) ∧ (ℓ0.nil = false → ℓ0.b ≠ b) := fun h => ⟨.inl (h2 b h).1, (h2 b h).2⟩
  rcases List.mem_append.1 hb with hb | hb
  ·exact old (by rw [blks_append]; exact List.mem_append_left _ hb)
  ·rcases List.mem_append.1 hb with hb | hb
   ·exact ⟨.inr hb, (hx b hb).2⟩
   ·exact old (by rw [blks_append]; exact List.mem_append_right _ hb)
theorem setH_twice (S : St) (id : Nat) (x y : Option Blk) : (S.setH id x).setH id y = S.setH id y := by
 unfold St.setH
 congr 1
 funext i
 by_cases h : i = id <;> simp [h]
theorem modify_set {α : Type} {f : α → α} : ∀ {l : List α} {j : Nat} {e : α}, l[j]? = some e → l.modify j f = l.set j (f e)
 | [], _, _, h => by cases h
 | x :: l, 0, e, h => by
  simp only [List.getElem?_cons_zero, Option.some.injEq] at h
  subst h
  rfl
 | x :: l, j + 1, e, h => by
  simp only [List.getElem?_cons_succ] at h
  simp [modify_set (f := f) h]

/-- AN UPDATE that puts the row back -/
theorem Chain.updClose {P : Program} {ops : Array Oper} {o : Oper} {l : List Oper} {S : St} {Q : St → Prop} {T : TypeId} {m i x : Operand} {id rid e n : Nat} {kd : TypeDesc} {rows : List (MKey × List (List D))} {r : List (List D)} {k : MKey} {kt et : TypeId} {ti tk : TI} (hw : wantedV ops S o = some true) (ho : o.op = .mapUpdate T m i x)
  (hT : tyOf P T = some ti) (hd : ti.desc = .map kt et) (hkt : tyOf P kt = some tk) (hkd : tk.desc = kd) (hm : S.ev m = .mref id) (hH : S.hp id = some (.hid (MR kd e n rows (some k)))) (hk : keyV (S.ev i) = some k) (hkk : k.desc = kd) (hx : S.ev x = .ref rid 0 r.length) (hR : S.hp rid = some (.arr e n r))
  (hrr : S.rts.contains rid = false) (hir : S.rts.contains id = false) (hne : rid ≠ id)
  (h : Chain false P ops l (((S.kill rid).setH id (some (.hid (MR kd e n (rput rows k r) none)))).put o.dst (.tup [])) Q) : Chain false P ops (o :: l) S Q := by
 intro fx a w Q' ⟨E, md⟩ hq
 unfold wpList
 rw [if_pos (wantedV_sound md hw)]
 refine .inl ?_
 have hmv := md.ev m
 rw [hm] at hmv
 have hmv : a.eval m = .map (some (E.loc id).b) := hmv
 have hiv := keyV_sound (md.ev i) hk
 have hxv := md.ev x
 rw [hx] at hxv
 have h0 : S.hp id ≠ none := by rw [hH]; simp
 have hr0 : S.hp rid ≠ none := by rw [hR]; simp
 have hrr' : rid ∉ S.rts := by simpa using hrr
 have hir' : id ∉ S.rts := by simpa using hir
 obtain ⟨hnil, hlt, _, _, hkeys, es, clock, ls, hb, hst, hmv2, hdis⟩ := md.ok.hold _ _ hH
 have harr := md.ok.hold _ _ hR
 have hcell : NCell (E.loc rid) E.Z w e n r (a.eval x) := ⟨by unfold RV at hxv ⊢; exact hxv, by unfold Hold at harr; exact harr⟩
 have hu : P.underlying T = some (.map kt et) := by rw [(tyOf_spec hT).1, hd]
 have huk : P.underlying kt = some k.desc := by rw [(tyOf_spec hkt).1, hkd, hkk]
 have hik := MV.keys hkeys hmv2
 have own : ∀ b ∈ blks [E.loc rid], (E.loc rid).own b := fun b hb => by
  cases hn : (E.loc rid).nil with
  | true => simp [blks, hn] at hb
  | false =>
   rw [blks_one hn] at hb
   obtain rfl := List.mem_singleton.1 hb
   exact Loc.here hn
 have m0 := md.kill hrr' (E.loc rid)
 rw [at_same] at m0
 have hH0 : (S.kill rid).hp id = some (.hid (MR kd e n rows (some k))) := by simp [St.kill, Ne.symm hne, hH, Blk.killed]
 have h00 : (S.kill rid).hp id ≠ none := by rw [hH0]; simp
 have add : ∀ l1 l2, ls = l1 ++ l2 → NDis { E.loc id with xs := fun b => (E.loc id).xs b ∨ b ∈ blks [E.loc rid] } (l1 ++ E.loc rid :: l2) := fun l1 l2 e1 => by
  rw [e1] at hdis
  exact hdis.add fun b hb => ⟨fun hx1 => md.ok.inj rid id hr0 h0 hne b (own b hb) (.inr hx1), fun hn1 e2 => md.ok.inj rid id hr0 h0 hne b (own b hb) (.inl ⟨hn1, e2⟩)⟩
 have m1 := m0.xs hir' h00 (fun b => (E.loc id).xs b ∨ b ∈ blks [E.loc rid]) (blk := .hid (MR kd e n rows (some k))) (fun b hb => by
  rcases hb with hb | hb
  ·exact .inl hb
  ·refine .inr ⟨md.mine rid hr0 b (own b hb), md.ok.apart rid hr0 b (own b hb), md.ok.own_lt hr0 (own b hb), fun j _ hj hown => ?_⟩
   cases hkj : (S.kill rid).hp j with
   | none => exact hj hkj
   | some b0 =>
    obtain ⟨q1, k0, q2, _⟩ := kill_hp hkj
    exact md.ok.inj j rid (by rw [q2]; simp) hr0 q1 b hown (own b hb)) (by
  unfold Hold
  rw [xat_here]
  exact ⟨hnil, hlt, MR.stab _ _ _ _ _, hnil, hkeys, es, clock, ls, hb, hst, hmv2, hdis.1, fun b hb => ⟨.inl (hdis.2 b hb).1, (hdis.2 b hb).2⟩⟩)
 have fin : ∀ (mes' : Array MapEntry) clock' ls', (Instr.mapUpdate T (a.eval m) (a.eval i) (a.eval x)).run P w = .ok () { w with heap := w.heap.setIfInBounds (E.loc id).b (.map mes' clock') } → Stamped mes' clock' → MV E.Z w e n none (rput rows k r) mes'.toList ls' → NDis { E.loc id with xs := fun b => (E.loc id).xs b ∨ b ∈ blks [E.loc rid] } ls' → o.wp P a w (wpList P ops Q' l) Q' := by
  intro mes' clock' ls' hrun hst' hmv' hdis'
  have hg := grownBy_set w (E.loc id).b (.map mes' clock')
  have hkp : Keeps E.Z w { w with heap := w.heap.setIfInBounds (E.loc id).b (.map mes' clock') } := Keeps.grown md.ok hg fun b hb => by injection hb with hb; rw [← hb]; exact md.ok.apart1 id h0 hnil
  have m2 := m1.wr (id := id) (k0 := .hid (MR kd e n rows (some k))) (by simp [St.setH]) (by rw [xat_here]; exact hnil) (by rw [xat_here]; exact hg) (blk := .hid (MR kd e n (rput rows k r) none)) (by
   unfold Hold
   rw [xat_here]
   refine ⟨hnil, ?_, MR.stab _ _ _ _ _, hnil, rput_keys hkk hkeys, mes', clock', ls', (heap_set hb).1, hst', MV.keep hkp (fun _ h => h) (fun b hb' => ?_) hmv', hdis'⟩
   ·show (E.loc id).b < (w.heap.setIfInBounds _ _).size
    simpa using hlt
   ·have hne2 := (hdis'.2 b hb').2 hnil
    exact hg.block b (by
     rcases (hdis'.2 b hb').1 with hx1 | hx1
     ·exact md.ok.xlt id h0 b hx1
     ·exact md.ok.own_lt hr0 (own b hx1)) (fun e2 => hne2 (by injection e2 with e2; exact e2.symm)))
  rw [setH_twice] at m2
  unfold Oper.wp execOp
  simp only [ho, Sem.run_bind, hrun, Result.andThen_ok, Sem.run_pure, Oper.upon]
  exact h fx _ _ Q' ⟨_, m2.put o.dst ⟨[], rfl, rfl⟩⟩ hq
 rcases find_now hkk 0 hik with ⟨g1, g2⟩ | ⟨j, e1, g1, g2, g3⟩
 ·refine fin (es.push { key := k.enc, val := a.eval x, born := clock }) (clock + 1) (ls ++ [E.loc rid]) ?_ (stamped_push hst g2) ?_ ?_
  ·rw [← hkk] at g1
   rw [hmv, hiv]
   simp [Instr.mapUpdate, run_underlying hu, MapKept.run_getObj_map hb, MapKept.run_checkKey huk k.isKey, run_findKey huk g1, MapKept.run_setObj_map _ hb]
  ·rw [Array.toList_push]
   exact MV.push rfl hcell g2 ((MV.fill g2).2 hmv2)
  ·have := add ls [] (by simp)
   exact this
 ·rw [Nat.zero_add] at g1
  have hej : es[j]? = some e1 := by simpa using g2
  obtain ⟨l1, l2, q1, q2⟩ := MV.set (e0 := { e1 with key := k.enc, val := a.eval x }) rfl hcell hst.2.2 g2 g3 hmv2
  refine fin (es.modify j fun e => { e with key := k.enc, val := a.eval x }) clock (l1 ++ E.loc rid :: l2) ?_ (stamped_modify hst _ _ (fun _ _ => rfl) (fun e' _ he' => by rw [hej] at he'; injection he' with he'; subst he'; exact g3.symm)) ?_ (add l1 l2 q1)
  ·rw [← hkk] at g1
   have hks : (Instr.keyThatStays e1.key k.enc).run P w = .ok k.enc w := by
    rw [g3]
    exact run_keyThatStays k.isKey
   rw [hmv, hiv]
   simp [Instr.mapUpdate, run_underlying hu, MapKept.run_getObj_map hb, MapKept.run_checkKey huk k.isKey, run_findKey huk g1, MapKept.run_setObj_map _ hb, hej, hks]
  ·have e2 : (es.modify j fun e => { e with key := k.enc, val := a.eval x }).toList = es.toList.modify j fun e => { e with key := k.enc, val := a.eval x } := by simp
   rw [e2, modify_set g2]
   exact q2
end Go.Ab
end
