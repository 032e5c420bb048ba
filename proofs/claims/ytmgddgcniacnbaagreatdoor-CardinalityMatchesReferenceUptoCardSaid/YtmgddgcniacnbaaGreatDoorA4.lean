/- Functional programs: contracts of functions that change what they are lent. Functional programs: maps as lists of pairs. Plain lemmas on functional programs: loops over lists and ranges. Functional programs: arrays of many cells as flat lists. Functional programs: contracts of functions that hand back a row of their own. Functional programs: maps as data, strings, functions without captured variables. Functional programs: cells of maps, rooms, bytes of strings. The abstract machine: ranges over slices.Backward's function. The abstract machine: the rule of a range over slices.Backward's function. Contracts of the library as contracts of functional programs. The abstract machine: nil slices among a row's elements seen as empty ones. The abstract machine: rows within own rows. The abstract machine: the rule of a range over slices.Chunk's function. -/
import Derived.Test.YtmgddgcniacnbaaGreatDoorA3
import Derived.RangeFuncSeq
import Derived.RangeFuncBox
import Derived.RangeFuncLeaves
import Derived.Shelf.Abstract
import Derived.WalkKit
import Derived.OwnWalkIn
import Derived.TacticsInMore
import Derived.LoopNIn
import Derived.LoopIn
section
namespace Go.Ab
open Go.RowKit
def FunM (P : Program) (f : FuncId) (args : List V) (h0 : List (Nat × Option Blk)) (rts : List Nat) (v : V) (h1 : List (Nat × Blk)) : Prop :=
 Ctr P f args (hlook h0) rts (fun r H => r = v ∧ ∀ q ∈ h1, H q.1 = some q.2)
def FinF (P : Program) (fn : Func) (v : V) (h1 : List (Nat × Blk)) (e : Exit) (S : St) : Prop := (e = .normal ∨ e = .ret) ∧ outV (tyOf P) fn.results.toList S = some v ∧ ∀ q ∈ h1, S.hp q.1 = some q.2
theorem FinF.normal {P : Program} {fn : Func} {v : V} {h1 : List (Nat × Blk)} {S : St} (h2 : outV (tyOf P) fn.results.toList S = some v) (h3 : ∀ q ∈ h1, S.hp q.1 = some q.2) : FinF P fn v h1 .normal S := ⟨.inl rfl, h2, h3⟩
theorem FunM.enter {P : Program} {f : FuncId} {fn : Func} {c : Code} {args : List V} {h0 : List (Nat × Option Blk)} {rts : List Nat} {v : V} {h1 : List (Nat × Blk)} (nt : Nat) (l : List (Nat × V)) (hf : P.funcs[f]? = some fn) (hb : fn.body = some c) (hle : args.length ≤ fn.ntmps) (hn : fn.ntmps = nt) (hl : enterL args 0 = l)
  (h : AW P c (mk nt rts l h0) (FinF P fn v h1)) : FunM P f args h0 rts v h1 := by
 subst hn; subst hl
 exact Ctr.of hf hb hle (h.mono fun e S ⟨h1, h2, h3⟩ => ⟨h1, v, h2, rfl, h3⟩)
theorem Chain.callFG {P : Program} {ops : Array Oper} {o : Oper} {l : List Oper} {S : St} {Q' : St → Prop} {f : FuncId} {full args : List V} {rts : List Nat} {h0 : List (Nat × Option Blk)} {v : V} {h1 : List (Nat × Blk)} (hF : FunM P f args h0 rts v h1)
  (lent : List (Nat × Nat)) (rt : List Nat) (pl : List (Nat × Nat)) (bl : List (Nat × Blk)) (r' : V)
  (hw : wantedV ops S o = some true) (hto : CallsTo P S o f full)
  (hargs : rnmL lent full = some args) (hks : (lent.map (·.1)).Nodup) (hcs : (lent.map (·.2)).Nodup)
  (hlent : ∀ p ∈ lent, ∃ b b', S.hp p.1 = some b ∧ b.rnm lent = some b' ∧ hlook h0 p.2 = some b') (honly : ∀ q ∈ h0, ∃ p ∈ lent, p.2 = q.1)
  (hp1 : (pl.map (·.1)).Nodup) (hp2 : (pl.map (·.2)).Nodup) (hhere : ∀ p ∈ pl, ∃ b, (p.1, b) ∈ h1)
  (hroot : ∀ p ∈ pl, (rt.contains p.2 = true ∧ (p.2, p.1) ∈ lent ∧ p.1 ∈ rts) ∨ (rt.contains p.2 = false ∧ p.2 ∉ S.rts))
  (hblk : ∀ q ∈ bl, ∃ c b, (c, q.1) ∈ pl ∧ (c, b) ∈ h1 ∧ b.rnm pl = some q.2) (hres : v.rnm pl = some r')
  (hrest : Chain false P ops l (S.after lent rt pl bl o.dst r') Q') : Chain false P ops (o :: l) S Q' := by
 refine Chain.callMG lent rt hw hto hargs hks hcs hlent honly hF fun r H1 ⟨hr, hh⟩ => ⟨pl, bl, r', ⟨hp1, hp2, fun p hp => ?_, hroot, fun q hq => ?_, by rw [hr]; exact hres⟩, hrest⟩
 ·obtain ⟨b, hb⟩ := hhere p hp
  rw [hh _ hb]; simp
 ·obtain ⟨c, b, h2, h3, h4⟩ := hblk q hq
  exact ⟨c, b, h2, hh _ h3, h4⟩
theorem Chain.callF {P : Program} {ops : Array Oper} {o : Oper} {l : List Oper} {S : St} {Q' : St → Prop} {c : Call} {f : FuncId} {caps args : List V} {rts : List Nat} {h0 : List (Nat × Option Blk)} {v : V} {h1 : List (Nat × Blk)} (hF : FunM P f args h0 rts v h1)
  (lent : List (Nat × Nat)) (rt : List Nat) (pl : List (Nat × Nat)) (bl : List (Nat × Blk)) (r' : V)
  (hw : wantedV ops S o = some true) (ho : o.op = .call c)
  (hcal : calleeV S c = some (f, caps)) (hargs : rnmL lent (c.args.toList.map S.ev ++ caps) = some args) (hks : (lent.map (·.1)).Nodup) (hcs : (lent.map (·.2)).Nodup)
  (hlent : ∀ p ∈ lent, ∃ b b', S.hp p.1 = some b ∧ b.rnm lent = some b' ∧ hlook h0 p.2 = some b') (honly : ∀ q ∈ h0, ∃ p ∈ lent, p.2 = q.1)
  (hent : Rp.Enters P f)
  (hp1 : (pl.map (·.1)).Nodup) (hp2 : (pl.map (·.2)).Nodup) (hhere : ∀ p ∈ pl, ∃ b, (p.1, b) ∈ h1)
  (hroot : ∀ p ∈ pl, (rt.contains p.2 = true ∧ (p.2, p.1) ∈ lent ∧ p.1 ∈ rts) ∨ (rt.contains p.2 = false ∧ p.2 ∉ S.rts))
  (hblk : ∀ q ∈ bl, ∃ c b, (c, q.1) ∈ pl ∧ (c, b) ∈ h1 ∧ b.rnm pl = some q.2) (hres : v.rnm pl = some r')
  (hrest : Chain false P ops l (S.after lent rt pl bl o.dst r') Q') : Chain false P ops (o :: l) S Q' :=
 Chain.callFG hF lent rt pl bl r' hw (.value hcal hent ho) hargs hks hcs hlent honly hp1 hp2 hhere hroot hblk hres hrest
end Go.Ab
end
section
namespace Go.Ab
open Go.RowKit
def V.lift (g : V → V) : V → V
 | .agg cs => if (cs.map g).all V.cell = true then .agg (cs.map g) else .junk
 | .tup cs => .tup (cs.map g)
 | .fn f cs => .fn f (cs.map g)
 | v => g v
def Blk.lift (g : V → V) : Blk → Option Blk
 | .box cs => if (cs.map g).all V.cell = true then some (.box (cs.map g)) else none
 | b => some b
def liftL (g : V → V) : List (Nat × V) → List (Nat × V)
 | [] => []
 | (k, v) :: r => (k, v.lift g) :: liftL g r
def liftH (id : Nat) (g : V → V) : List (Nat × Option Blk) → List (Nat × Option Blk)
 | [] => []
 | (k, b) :: r => (k, if k = id then none else b.bind (Blk.lift g)) :: liftH id g r
def frzP (id : Nat) (ds : List D) : V → V
 | .ptr i k off => if i = id then (if k = 0 then .d (.pim (ds.drop off)) else .junk) else .ptr i k off
 | v => v
attribute [simp] V.lift Blk.lift liftL liftH frzP
theorem RVs_setAt {E : Env} {w : World} {c : V} : ∀ {cs : List V} {vs : List Value} {j : Nat} {v : Value}, RVs E w cs vs → vs[j]? = some v → RV E w c v → RVs E w (cs.set j c) vs
 | [], vs, j, v, h, hv, _ => by
  have : vs = [] := h
  subst this; simp at hv
 | x :: cs, _, 0, v, ⟨u, r, h, h1, h2⟩, hv, hc => by
  subst h
  simp at hv; subst hv
  exact ⟨_, r, rfl, hc, h2⟩
 | x :: cs, _, j + 1, v, ⟨u, r, h, h1, h2⟩, hv, hc => by
  subst h
  exact ⟨u, r, rfl, h1, RVs_setAt h2 (by simpa using hv) hc⟩
theorem Sub.nilOwnBox {S : St} {bid j id T n : Nat} {cs : List V} (hcs : S.hp bid = some (.box cs)) (hj : cs[j]? = some (.d (.lit (.slice none 0 0)))) (hne : bid ≠ id) (hid : S.rts.contains id = false) (hn : 0 < n) :
  Sub S (((S.kill id).setH id (some (.arr T n []))).setH bid (some (.box ((killC id cs).set j (.ref id 0 0))))) := .of fun fx a w E m => by
 have hid' : id ∉ S.rts := by simpa using hid
 have m' := m.re (row := none) hid' ⟨rfl, rfl, rfl, Nat.le_refl _, fun _ _ _ => rfl⟩ (fun b hb => by cases hb) ⟨0, 0, n, 0, true, fun _ => False⟩ (blk := .arr T n []) ⟨by simp [Env.at], by simp [Env.at], (fun e he => by cases he), hn, .inl ⟨by simp [Env.at], rfl⟩⟩ (fun h => by cases h)
 obtain ⟨hnil, h1, vs, h2, h3, h4, h5⟩ := m.ok.hold bid _ hcs
 obtain ⟨v, hv, hrv⟩ := RVs_get h2 hj
 have hvn : v = .slice none 0 0 := RD_lit hrv
 subst hvn
 have hloc : (E.at id ⟨0, 0, n, 0, true, fun _ => False⟩).loc bid = E.loc bid := by simp [Env.at, hne]
 refine ⟨_, m'.wr (id := bid) (k0 := .box (killC id cs)) ?_ (by rw [hloc]; exact hnil) ⟨rfl, rfl, rfl, Nat.le_refl _, fun _ _ _ => rfl⟩ ?_⟩
 ·show (if bid = id then _ else if bid = id then _ else (S.hp bid).map (Blk.killed id)) = _
  rw [if_neg hne, if_neg hne, hcs]
  rfl
 ·refine ⟨by rw [hloc]; exact hnil, fun c hc => ?_, vs, RVs_setAt (RVs.killC h1 h2) hv (.inl ⟨by simp [Env.at], rfl, rfl, rfl⟩), by rw [hloc]; exact h3, by rw [hloc]; exact h4, by rw [hloc]; exact h5⟩
  rcases List.mem_or_eq_of_mem_set hc with hc | rfl
  ·exact killC_cell h1 c hc
  ·rfl
section
variable {κ α : Type} [DecidableEq κ]
def vI (k : IntKind) (n : Int) : V := .d (.lit (.int k n))
def vB (b : Bool) : V := .d (.lit (.bool b))
def vS (s : ByteArray) : V := .d (.lit (.string s))
end
end Go.Ab
end
section
namespace Go.Ab
open Go.RowKit
theorem idx_nat {α : Type} {xs : List α} {k : Nat} {x : α} (h : xs[k]? = some x) : idx xs (k : Int) = some x := by
 unfold idx
 rw [if_pos (by omega)]
 simpa using h
@[simp] theorem letv_eq {α β : Type} (x : α) (k : α → β) : letv x k = k x := rfl
end Go.Ab
end
section
namespace Go.Ab
open Go.RowKit
def dI (k : IntKind) (n : Int) : D := .lit (.int k n)
def dB (b : Bool) : D := .lit (.bool b)
def dS (s : ByteArray) : D := .lit (.string s)
@[simp] theorem comp_dI (k : IntKind) : V.d ∘ dI k = vI k := rfl
@[simp] theorem comp_dB : V.d ∘ dB = vB := rfl
@[simp] theorem comp_dS : V.d ∘ dS = vS := rfl
attribute [simp] vI vB vS dI dB dS
structure Scal {α : Type} (v : α → V) (d : α → D) : Prop where
 is : ∀ x, v x = .d (d x)
 lit : ∀ x, ∃ u, d x = .lit u
theorem sI (k : IntKind) : Scal (vI k) (dI k) := ⟨fun _ => rfl, fun _ => ⟨_, rfl⟩⟩
theorem sB : Scal vB dB := ⟨fun _ => rfl, fun _ => ⟨_, rfl⟩⟩
theorem sS : Scal vS dS := ⟨fun _ => rfl, fun _ => ⟨_, rfl⟩⟩
section
variable {α : Type} {v : α → V} {d : α → D}
theorem Scal.map (h : Scal v d) (xs : List α) : xs.map v = (xs.map d).map V.d := by
 rw [List.map_map]
 exact List.map_congr_left fun x _ => h.is x
theorem Scal.allCell (h : Scal v d) (xs : List α) : (xs.map v).all V.cell = true := by
 rw [List.all_map, List.all_eq_true]
 intro x _
 show (v x).cell = true
 rw [h.is]; rfl
theorem Scal.all' (h : Scal v d) (xs : List α) : xs.all (V.cell ∘ v) = true := by
 have := h.allCell xs
 rwa [List.all_map] at this
theorem Scal.hasL (h : Scal v d) (id : Nat) (xs : List α) : Ab.hasL id (xs.map v) = false := by
 rw [h.map]; exact hasL_d _
theorem Scal.killC (h : Scal v d) (id : Nat) : ∀ xs : List α, Ab.killC id (xs.map v) = xs.map v
 | [] => rfl
 | x :: xs => by
  show (if (v x).has id then V.hole else v x) :: Ab.killC id (xs.map v) = _
  have : (v x).has id = false := by rw [h.is]; rfl
  rw [h.killC id xs, if_neg (by simp [this])]
  rfl
theorem Scal.closedL (h : Scal v d) (xs : List α) : Ab.closedL (xs.map v) = true := by
 rw [h.map]; exact closedL_d _
theorem Scal.flatL (h : Scal v d) : ∀ xs : List α, Ab.flatL (xs.map v) = true
 | [] => rfl
 | x :: xs => by
  show ((v x).flat && Ab.flatL (xs.map v)) = true
  obtain ⟨u, hu⟩ := h.lit x
  rw [h.flatL xs, h.is, hu]
  rfl
theorem Scal.viewV (h : Scal v d) (H : Heap) (xs : List α) : Ab.viewV H (.agg (xs.map v)) = some (.agg (xs.map v)) := by
 rw [h.map]
 show (mapO (viewD H 2) ((xs.map d).map V.d)).map _ = _
 rw [mapO_viewD_d]
 rfl
theorem Scal.viewD (h : Scal v d) (H : Heap) (k : Nat) (xs : List α) : mapO (Ab.viewD H k) (xs.map v) = some (xs.map d) := by
 rw [h.map]; exact mapO_viewD_d _
theorem Scal.toDs (h : Scal v d) (xs : List α) : Ab.toDs (xs.map v) = some (xs.map d) := by
 induction xs with
 | nil => rfl
 | cons x xs ih =>
  show (match toD (v x), Ab.toDs (xs.map v) with | some x, some xs => some (x :: xs) | _, _ => none) = _
  rw [ih, h.is]
  rfl
theorem Scal.frz1 (h : Scal v d) (id : Nat) (es : List (List D)) (xs : List α) : (xs.map v).map (V.frz1 id es) = xs.map v := by
 rw [List.map_map]
 refine List.map_congr_left fun x _ => ?_
 show V.frz1 id es (v x) = v x
 rw [h.is]; rfl
theorem Scal.wk1 (h : Scal v d) (hn : ∀ x, d x ≠ .lit (.slice none 0 0)) (xs : List α) : (xs.map v).map V.wk1 = xs.map v := by
 rw [List.map_map]
 refine List.map_congr_left fun x _ => ?_
 show V.wk1 (v x) = v x
 rw [h.is]
 have := hn x
 show V.d (d x).wk = _
 unfold D.wk
 split
 ·rename_i e; exact absurd e this
 ·rfl
end
@[simp] theorem all_vI (k : IntKind) (xs : List Int) : xs.all (V.cell ∘ vI k) = true := (sI k).all' xs
@[simp] theorem all_vB (xs : List Bool) : xs.all (V.cell ∘ vB) = true := sB.all' xs
@[simp] theorem all_vS (xs : List ByteArray) : xs.all (V.cell ∘ vS) = true := sS.all' xs
@[simp] theorem hasL_vI (k : IntKind) (id : Nat) (xs : List Int) : hasL id (xs.map (vI k)) = false := (sI k).hasL id xs
@[simp] theorem hasL_vB (id : Nat) (xs : List Bool) : hasL id (xs.map vB) = false := sB.hasL id xs
@[simp] theorem hasL_vS (id : Nat) (xs : List ByteArray) : hasL id (xs.map vS) = false := sS.hasL id xs
@[simp] theorem killC_vI (k : IntKind) (id : Nat) (xs : List Int) : killC id (xs.map (vI k)) = xs.map (vI k) := (sI k).killC id xs
@[simp] theorem killC_vB (id : Nat) (xs : List Bool) : killC id (xs.map vB) = xs.map vB := sB.killC id xs
@[simp] theorem killC_vS (id : Nat) (xs : List ByteArray) : killC id (xs.map vS) = xs.map vS := sS.killC id xs
@[simp] theorem closedL_vI (k : IntKind) (xs : List Int) : closedL (xs.map (vI k)) = true := (sI k).closedL xs
@[simp] theorem closedL_vB (xs : List Bool) : closedL (xs.map vB) = true := sB.closedL xs
@[simp] theorem closedL_vS (xs : List ByteArray) : closedL (xs.map vS) = true := sS.closedL xs
@[simp] theorem flatL_vI (k : IntKind) (xs : List Int) : flatL (xs.map (vI k)) = true := (sI k).flatL xs
@[simp] theorem flatL_vB (xs : List Bool) : flatL (xs.map vB) = true := sB.flatL xs
@[simp] theorem flatL_vS (xs : List ByteArray) : flatL (xs.map vS) = true := sS.flatL xs
@[simp high] theorem viewV_vI (k : IntKind) (H : Heap) (xs : List Int) : viewV H (.agg (xs.map (vI k))) = some (.agg (xs.map (vI k))) := (sI k).viewV H xs
@[simp high] theorem viewV_vB (H : Heap) (xs : List Bool) : viewV H (.agg (xs.map vB)) = some (.agg (xs.map vB)) := sB.viewV H xs
@[simp high] theorem viewV_vS (H : Heap) (xs : List ByteArray) : viewV H (.agg (xs.map vS)) = some (.agg (xs.map vS)) := sS.viewV H xs
@[simp] theorem viewD_vI (k : IntKind) (H : Heap) (n : Nat) (xs : List Int) : mapO (viewD H n) (xs.map (vI k)) = some (xs.map (dI k)) := (sI k).viewD H n xs
@[simp] theorem viewD_vB (H : Heap) (n : Nat) (xs : List Bool) : mapO (viewD H n) (xs.map vB) = some (xs.map dB) := sB.viewD H n xs
@[simp] theorem viewD_vS (H : Heap) (n : Nat) (xs : List ByteArray) : mapO (viewD H n) (xs.map vS) = some (xs.map dS) := sS.viewD H n xs
@[simp] theorem frz1_vI (k : IntKind) (id : Nat) (es : List (List D)) : V.frz1 id es ∘ vI k = vI k := rfl
@[simp] theorem frz1_vB (id : Nat) (es : List (List D)) : V.frz1 id es ∘ vB = vB := rfl
@[simp] theorem frz1_vS (id : Nat) (es : List (List D)) : V.frz1 id es ∘ vS = vS := rfl
@[simp] theorem frzP_vI (k : IntKind) (id : Nat) (es : List D) : frzP id es ∘ vI k = vI k := rfl
@[simp] theorem frzP_vB (id : Nat) (es : List D) : frzP id es ∘ vB = vB := rfl
@[simp] theorem wk1_vI (k : IntKind) : V.wk1 ∘ vI k = vI k := rfl
@[simp] theorem wk1_vB : V.wk1 ∘ vB = vB := rfl
@[simp] theorem wk1_vS : V.wk1 ∘ vS = vS := rfl
attribute [simp] List.drop_eq_nil_of_le
end Go.Ab
end
section
namespace Go.Ab
open Go.RowKit
def FunO (P : Program) (f : FuncId) (args : List V) (v : V) (blk : Blk) : Prop := Fun P f args (fun r k => r.ren 0 = v ∧ k = some blk)
def FinO (P : Program) (fn : Func) (v : V) (blk : Blk) (e : Exit) (S : St) : Prop :=
 (e = .normal ∨ e = .ret) ∧ ∃ r, outV (tyOf P) fn.results.toList S = some r ∧ ∃ id T n es, r.only id = true ∧ S.hp id = some (.arr T n es) ∧ r.ren 0 = v ∧ blk = .arr T n es
theorem FinO.ret {P : Program} {fn : Func} {v : V} {blk : Blk} {S : St} (r : V) (id : Nat) {T n : Nat} {es : List (List D)} (h1 : outV (tyOf P) fn.results.toList S = some r) (h2 : r.only id = true) (h3 : S.hp id = some (.arr T n es)) (h4 : r.ren 0 = v) (h5 : blk = .arr T n es) : FinO P fn v blk .ret S :=
 ⟨.inr rfl, r, h1, id, T, n, es, h2, h3, h4, h5⟩
theorem FunO.enter {P : Program} {f : FuncId} {fn : Func} {c : Code} {args : List V} {v : V} {blk : Blk} (nt : Nat) (l : List (Nat × V)) (hf : P.funcs[f]? = some fn) (hb : fn.body = some c) (hle : args.length ≤ fn.ntmps) (hn : fn.ntmps = nt) (hl : enterL args 0 = l)
  (h : AW P c (mk nt [] l []) (FinO P fn v blk)) : FunO P f args v blk := by
 subst hn; subst hl
 exact Fun.fin hf hb hle (h.mono fun _ _ ⟨h1, r, h2, id, T, n, es, h3, h4, h5, h6⟩ => ⟨h1, r, h2, .inr ⟨id, T, n, es, h3, h4, h5, by rw [h6]⟩⟩)
mutual
theorem ren_ren {d e : Nat} : ∀ (c : V), (c.ren e).ren d = c.ren d
 | .d _ => rfl
 | .dx _ => rfl
 | .ref .. => rfl
 | .ptr .. => rfl
 | .mref _ => rfl
 | .hole => rfl
 | .junk => rfl
 | .agg cs => by simp only [V.ren]; rw [renL_renL cs]
 | .tup cs => by simp only [V.ren]; rw [renL_renL cs]
 | .fn f cs => by simp only [V.ren]; rw [renL_renL cs]
theorem renL_renL {d e : Nat} : ∀ (cs : List V), renL d (renL e cs) = renL d cs
 | [] => rfl
 | c :: cs => by simp only [renL]; rw [ren_ren c, renL_renL cs]
end
theorem Chain.callO {P : Program} {ops : Array Oper} {o : Oper} {l : List Oper} {S : St} {Q' : St → Prop} {c : Call} {d : Nat} {f : FuncId} {caps args : List V} {v : V} {T n : Nat} {es : List (List D)} (hF : FunO P f args v (.arr T n es)) (hw : wantedV ops S o = some true) (ho : o.op = .call c) (hd : o.dst = some d)
  (hcal : calleeV S c = some (f, caps)) (hargs : mapO (viewV S.hp) (c.args.toList.map S.ev ++ caps) = some args) (hent : Rp.Enters P f) (hid : S.rts.contains d = false)
  (hclo : c.args.toList.map S.ev ++ caps = args ∧ closedL args = true)
  (hrest : Chain false P ops l (((S.kill d).setH d (some (.arr T n es))).put (some d) (v.ren d)) Q') : Chain false P ops (o :: l) S Q' := by
 refine Chain.call hw ho hd hcal hargs hent hF hid (.inl hclo) fun r k hq => ?_
 obtain ⟨h1, rfl⟩ := hq
 unfold St.got
 rw [← ren_ren (d := d) (e := 0) r, h1]
 exact hrest
end Go.Ab
end
section
namespace Go.Ab
open Go.RowKit Go.MapKept
def V.wf : V → V
 | .d (.lit (.func (.func f) _ _)) => .fn (.func f) []
 | v => v
theorem RV.wf {E : Env} {w : World} {c : V} {v : Value} (h : RV E w c v) : RV E w c.wf v := by
 unfold V.wf
 split
 ·rename_i f a b
  have h : RD w E.Z (.lit (.func (.func f) a b)) v := h
  obtain ⟨rfl, hp⟩ := h
  simp only [plain, Bool.and_eq_true, Array.isEmpty_iff] at hp
  obtain ⟨rfl, rfl⟩ := hp
  exact ⟨[], rfl, rfl⟩
 ·exact h
theorem FunC.argsF {P : Program} {f : FuncId} {args args' : List V} {v v' : V} (h : FunC P f args' v') (ha : args' = args.map V.wf) (hv : v' = v) : FunC P f args v := by
 subst ha; subst hv
 exact ⟨h.1, fun w Z vals hg hz hx => h.2 w Z vals hg hz (RVs.frz (fun _ _ h => RV.wf h) hx)⟩
def frzM (id : Nat) (x : D) : V → V
 | .mref i => if i = id then .d x else .mref i
 | v => v
attribute [simp] frzM
section
variable {κ α : Type} [DecidableEq κ]
end
def minI (x y : Int) : Int := if y < x then y else x
end Go.Ab
end
section
namespace Go.Ab
open Go.RowKit
def cM {κ α : Type} (kd : TypeDesc) (ag : Bool) (kf : κ → MKey) (cf : α → List D) (m : List (κ × α)) : List D := [.mpi kd ag (m.map (kf ∘ Prod.fst)) (m.map (cf ∘ Prod.snd))]
attribute [simp] cM
@[simp] theorem all_cM {κ α : Type} (kd : TypeDesc) (ag : Bool) (kf : κ → MKey) (cf : α → List D) (xs : List (List (κ × α))) : xs.all ((fun e => decide (e.length = 1)) ∘ cM kd ag kf cf) = true := all_len (c := cM kd ag kf cf) (fun _ => rfl) xs
@[simp ↓] theorem toList_beqD (x y : ByteArray) : (x.toList == y.toList) = decide (x = y) := toList_beq x y
theorem idx_someN {α : Type} {xs : List α} {n : Nat} {x : α} (h : idx xs (n : Int) = some x) : xs[n]? = some x ∧ n < xs.length ∧ ∀ h : n < xs.length, xs[n]'h = x := by
 obtain ⟨k, h1, h2, _, _⟩ := idx_some h
 simp at h1
 subst h1
 obtain ⟨h3, h4⟩ := List.getElem?_eq_some_iff.1 h2
 exact ⟨h2, h3, fun _ => h4⟩
theorem Sub.tt {nt : Nat} {rts : List Nat} {l l' : List (Nat × V)} {h h' : List (Nat × Option Blk)} (hl : ∀ p ∈ l', p.2 = tlook l p.1 := by simp) (hh : ∀ p ∈ h', p.2 = hlook h p.1 := by simp) : Sub (mk nt rts l h) (mk nt rts l' h') := .table hl hh
end Go.Ab
end
section
namespace Go.Ab
open Go.RowKit
end Go.Ab
end
section
namespace Go.Ab
open Go.RowKit
def elemV : List D → V
 | [c] => .d c
 | cs => .agg (cs.map .d)
@[simp] theorem elemV_one (c : D) : elemV [c] = .d c := rfl
@[simp] theorem elemV_two (c d : D) (cs : List D) : elemV (c :: d :: cs) = .agg ((c :: d :: cs).map .d) := rfl
attribute [simp] V.wk1 D.wk
section
variable {P : Program} {α β ρ : Type}
end
end Go.Ab
end
section
namespace Go.Ab
open Go.RowKit
theorem FunC.of_calls {P : Program} {f : FuncId} {args : List V} {vals : List Value} {r : Value} (hv : ∀ E w vs, RVs E w args vs → vs = vals) (hr : plain r = true)
  (h : ∀ w, GW w → Calls P f vals.toArray w fun e w' => e = .returned r ∧ Grow w w') : FunC P f args (.d (.lit r)) :=
 ⟨rfl, fun w Z vs hgw hz hvs => by
  rw [hv _ _ _ hvs]
  refine (h w hgw).mono ?_
  rintro e w' ⟨rfl, hg⟩
  exact ⟨r, default, Z, .d (.lit r), none, rfl, ⟨rfl, rfl⟩, ⟨rfl, hr⟩, (fun blk hb => by cases hb), (fun b hb => ⟨.inl hb, Nat.lt_of_lt_of_le (hz b hb) hg.size⟩), hg⟩⟩
end Go.Ab
end
section
namespace Go.Ab
open Go.RowKit
theorem RDs.wk {w : World} {Z : Nat → Prop} : ∀ {ds : List D} {vs : List Value}, RDs w Z ds vs → RDs w Z (ds.map D.wk) vs
 | [], _, h => h
 | _ :: _, _, ⟨v, r, h1, h2, h3⟩ => ⟨v, r, h1, RD.wk h2, RDs.wk h3⟩
theorem RDe.wk {w : World} {Z : Nat → Prop} : ∀ {es : List (List D)} {vs : List Value}, RDe w Z es vs → RDe w Z (es.map fun e => e.map D.wk) vs
 | [], _, h => h
 | _ :: _, _, ⟨a, r, h1, h2, h3⟩ => ⟨a, r, h1, RDs.wk h2, RDe.wk h3⟩
theorem Sub.wkRow {S : St} (id : Nat) {T n : Nat} {es : List (List D)} (hH : S.hp id = some (.arr T n es)) : Sub S (S.setH id (some (.arr T n (es.map fun e => e.map D.wk)))) := .of fun fx a w E md => by
 obtain ⟨g1, g2, g3, g4, g5⟩ := md.ok.hold _ _ hH
 have g3' : ∀ e ∈ es.map (fun e => e.map D.wk), e.length = n := fun e he => by
  obtain ⟨e', he', rfl⟩ := List.mem_map.1 he
  rw [List.length_map]; exact g3 e' he'
 rcases g5 with ⟨g6, rfl⟩ | ⟨hn, c, flat, k1, k2, k3, k4, k5, k6⟩
 ·have : S.setH id (some (.arr T n (([] : List (List D)).map fun e => e.map D.wk))) = S := by
   unfold St.setH
   congr 1
   funext i
   by_cases hi : i = id
   ·subst hi; rw [if_pos rfl, hH]; rfl
   ·rw [if_neg hi]
  rw [this]
  exact ⟨E, md⟩
 ·exact ⟨E, md.wr hH hn ⟨rfl, rfl, rfl, Nat.le_refl _, fun _ _ _ => rfl⟩ ⟨g1, g2, g3', g4, .inr ⟨hn, c, flat, k1, by rw [List.length_map]; exact k2, k3, k4, RDe.wk k5, by rw [List.length_map]; exact k6⟩⟩⟩
end Go.Ab
end
section
namespace Go.Ab
open Go.RowKit
end Go.Ab
end
section
namespace Go.Ab
open Go.RowKit
section
variable {P : Program} {α β ρ : Type}
end
end Go.Ab
end
section
namespace Go.Ab
open Go.RowKit
@[simp] def FT (b : Nat → Bool) : List Nat → Prop
  | [] => True
  | j :: r => b j = true ∧ FT b r
@[simp] def FD (b : Nat → Bool) (i : Nat) : List (List Nat) → Nat → Prop
  | [], _ => True
  | a :: r, k => (a.contains i = true → b k = false) ∧ FD b i r (k + 1)
theorem FT_of {b : Nat → Bool} : ∀ {l : List Nat}, (∀ j, j ∈ l → b j = true) → FT b l
  | [], _ => trivial
  | j :: _r, h => ⟨h j (.head _), FT_of fun k hk => h k (.tail _ hk)⟩
theorem FD_of {b : Nat → Bool} {i : Nat} : ∀ {L : List (List Nat)} {n : Nat}, (∀ k, i ∈ L.getD k [] → b (n + k) = false) → FD b i L n
  | [], _, _ => trivial
  | a :: r, n, h => ⟨fun hc => h 0 (by simpa using hc), FD_of (n := n + 1) fun k hk => by
      have := h (k + 1) (by simpa using hk)
      rwa [show n + (k + 1) = n + 1 + k by omega] at this⟩
theorem fct {b : Nat → Bool} {i : Nat} {L : List (List Nat)} (h0 : b i = false) (ha : ∀ j, j ∈ L.getD i [] → b j = true) (hd : ∀ k, i ∈ L.getD k [] → b k = false) : b i = false ∧ FT b (L.getD i []) ∧ FD b i L 0 :=
  ⟨h0, FT_of ha, FD_of fun k hk => by rw [Nat.zero_add]; exact hd k hk⟩
theorem Chain.tt {q : Bool} {P : Program} {ops : Array Oper} {lo : List Oper} {nt : Nat} {rts : List Nat} {l : List (Nat × V)} {h : List (Nat × Option Blk)} {Q : St → Prop} (l' : List (Nat × V)) (h' : List (Nat × Option Blk)) (k : Chain q P ops lo (mk nt rts l' h') Q)
    (hl : ∀ p ∈ l', p.2 = tlook l p.1 := by simp) (hh : ∀ p ∈ h', p.2 = hlook h p.1 := by simp) : Chain q P ops lo (mk nt rts l h) Q := Chain.sub (.table hl hh) k
theorem AW.tt {P : Program} {c : Code} {nt : Nat} {rts : List Nat} {l : List (Nat × V)} {h : List (Nat × Option Blk)} {Q : Exit → St → Prop} (l' : List (Nat × V)) (h' : List (Nat × Option Blk)) (k : AW P c (mk nt rts l' h') Q)
    (hl : ∀ p ∈ l', p.2 = tlook l p.1 := by simp) (hh : ∀ p ∈ h', p.2 = hlook h p.1 := by simp) : AW P c (mk nt rts l h) Q := AW.sub (.table hl hh) k
theorem Chain.st {q : Bool} {P : Program} {ops : Array Oper} {lo : List Oper} {S : St} {Q : St → Prop} (S' : St) (k : Chain q P ops lo S' Q) (hs : Sub S S' := by (simp; exact Sub.table (by simp) (by simp))) : Chain q P ops lo S Q := Chain.sub hs k
theorem AW.st {P : Program} {c : Code} {S : St} {Q : Exit → St → Prop} (S' : St) (k : AW P c S' Q) (hs : Sub S S' := by (simp; exact Sub.table (by simp) (by simp))) : AW P c S Q := AW.sub hs k
theorem Chain.rk {P : Program} {ops : Array Oper} {l : List Oper} {S : St} {Q : St → Prop} (n : Nat) (h : ∀ K : List Oper → St → Prop, (∀ {l' S'}, Chain false P ops l' S' Q → K l' S') → thenK K (Ab.runM (tyOf P) [] ops n l S)) : Chain false P ops l S Q := .runK [] n fun K k => h K fun h => k _ _ h
theorem Chain.rq {q : Bool} {P : Program} {ops : Array Oper} {l : List Oper} {S : St} {Q : St → Prop} (n : Nat) (h : ∀ K : List Oper → St → Prop, (∀ {l' S'}, Chain q P ops l' S' Q → K l' S') → thenK K (Ab.runN (tyOf P) ops n l S)) : Chain q P ops l S Q := .runQ n fun K k => h K fun h => k _ _ h
@[simp] def FA (b : Nat → Bool) : Nat → Prop
  | 0 => True
  | n + 1 => b n = true ∧ FA b n
theorem FA_of {b : Nat → Bool} : ∀ {n : Nat}, (∀ i, i < n → b i = true) → FA b n
  | 0, _ => trivial
  | n + 1, h => ⟨h n (Nat.lt_succ_self n), FA_of fun i hi => h i (Nat.lt_succ_of_lt hi)⟩
end Go.Ab
end
