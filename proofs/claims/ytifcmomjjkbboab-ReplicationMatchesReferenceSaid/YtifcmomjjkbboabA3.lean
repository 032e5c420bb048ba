/- Functional programs: arrays of many cells as flat lists. Functional programs: contracts of functions that hand back a row of their own. The abstract machine: an append to a slice without room: the elements are copied. Functional programs: maps as data, strings, functions without captured variables. The abstract machine: room made ahead by an append of zeros to nil; the capacity of nil. Functional programs: cells of maps, rooms, bytes of strings. Functional programs: copy into an own row, remainders of uint64, cases of optional objects. Functional programs: zeros appended to an own row. The abstract machine: ranges over slices.Backward's function. The abstract machine: the rule of a range over slices.Backward's function. The abstract machine: calls that look at own rows and hand back rows of literals. The abstract machine: the library's sorts on own rows (the kit's contracts, as contracts of functions that are lent a row). The abstract machine: slices.SortFunc on an own row (the kit's contract, as a contract of a function that is lent a row). The abstract machine: appends to a row whose first elements have been cut off; loops whose state hides how the row lies. The abstract machine: drawn regions whose first operations only look and call, and whose effects stand at the end. Functional programs: errors as truth values; contracts of the library's functions. The abstract machine: maps: their length. The abstract machine: functions that hand back a map of their own (maps.Clone); two calls at once (slices.Sorted(maps.Keys(m))). The abstract machine: rows within own rows. The abstract machine: one of the rows within an own row is opened, and closed. The abstract machine: rows of rows, as the printed texts use them. The abstract machine: rows of rows are built and put together. -/
import Derived.Test.YtifcmomjjkbboabA2
import Derived.Lib.AppendZeros
import Derived.Laws.CopyRow
import Derived.Laws.IdiomCopy
import Derived.Lib.AppendZerosOnto
import Derived.RangeFuncSeq
import Derived.RangeFuncBox
import Derived.RangeFuncLeaves
import Derived.Shelf.Abstract
import Derived.WalkKit
import Derived.OwnWalkIn
import Derived.TacticsInMore
import Derived.LoopNIn
import Derived.LoopIn
import Derived.Shelf.Sort.Plain
import Derived.Shelf.Slices.In.SortNone
import Derived.Shelf.SlSortCmp.NoneTotal
import Derived.Sort.KeysCollected
import Derived.Maps.Own
section
namespace Go.Ab
open Go.RowKit

def dI (k : IntKind) (n : Int) : D := .lit (.int k n)
def dB (b : Bool) : D := .lit (.bool b)
def dS (s : ByteArray) : D := .lit (.string s)
@[simp] theorem comp_dI (k : IntKind) : V.d ∘ dI k = vI k := rfl
@[simp] theorem comp_dB : V.d ∘ dB = vB := rfl
@[simp] theorem comp_dS : V.d ∘ dS = vS := rfl
attribute [simp] vI vB vS dI dB dS

/-- a kind of cells -/
structure Scal {α : Type} (v : α → V) (d : α → D) : Prop where
 is : ∀ x, v x = .d (d x)
 lit : ∀ x, ∃ u, d x = .lit u
theorem sI (k : IntKind) : Scal (vI k) (dI k) := ⟨fun _ => rfl, fun _ => ⟨_, rfl⟩⟩
theorem sB : Scal vB dB := ⟨fun _ => rfl, fun _ => ⟨_, rfl⟩⟩
theorem sS : Scal vS dS := ⟨fun _ => rfl, fun _ => ⟨_, rfl⟩⟩
section
variable {α : Type} {v : α → V} {d : α → D}
theorem Scal.map (h : Scal v d) (xs : List α) : xs.map v = (xs.map d).map V.d := by
 rw [List.map_map]
 exact List.map_congr_left fun x _ => h.is x
theorem Scal.allCell (h : Scal v d) (xs : List α) : (xs.map v).all V.cell = true := by
 rw [List.all_map, List.all_eq_true]
 intro x _
 show (v x).cell = true
 rw [h.is]; rfl
theorem Scal.all' (h : Scal v d) (xs : List α) : xs.all (V.cell ∘ v) = true := by
 have := h.allCell xs
 rwa [List.all_map] at this
theorem Scal.hasL (h : Scal v d) (id : Nat) (xs : List α) : Ab.hasL id (xs.map v) = false := by
 rw [h.map]; exact hasL_d _
theorem Scal.killC (h : Scal v d) (id : Nat) : ∀ xs : List α, Ab.killC id (xs.map v) = xs.map v
 | [] => rfl
 | x :: xs => by
  show (if (v x).has id then V.hole else v x) :: Ab.killC id (xs.map v) = _
  have : (v x).has id = false := by rw [h.is]; rfl
  rw [h.killC id xs, if_neg (by simp [this])]
  rfl
theorem Scal.closedL (h : Scal v d) (xs : List α) : Ab.closedL (xs.map v) = true := by
 rw [h.map]; exact closedL_d _
theorem Scal.flatL (h : Scal v d) : ∀ xs : List α, Ab.flatL (xs.map v) = true
 | [] => rfl
 | x :: xs => by
  show ((v x).flat && Ab.flatL (xs.map v)) = true
  obtain ⟨u, hu⟩ := h.lit x
  rw [h.flatL xs, h.is, hu]
  rfl
theorem Scal.viewV (h : Scal v d) (H : Heap) (xs : List α) : Ab.viewV H (.agg (xs.map v)) = some (.agg (xs.map v)) := by
 rw [h.map]
 show (mapO (viewD H 2) ((xs.map d).map V.d)).map _ = _
 rw [mapO_viewD_d]
 rfl
theorem Scal.viewD (h : Scal v d) (H : Heap) (k : Nat) (xs : List α) : mapO (Ab.viewD H k) (xs.map v) = some (xs.map d) := by
 rw [h.map]; exact mapO_viewD_d _
theorem Scal.toDs (h : Scal v d) (xs : List α) : Ab.toDs (xs.map v) = some (xs.map d) := by
 induction xs with
 | nil => rfl
 | cons x xs ih =>
  show (match toD (v x), Ab.toDs (xs.map v) with | some x, some xs => some (x :: xs) | _, _ => none) = _
  rw [ih, h.is]
  rfl
theorem Scal.frz1 (h : Scal v d) (id : Nat) (es : List (List D)) (xs : List α) : (xs.map v).map (V.frz1 id es) = xs.map v := by
 rw [List.map_map]
 refine List.map_congr_left fun x _ => ?_
 show V.frz1 id es (v x) = v x
 rw [h.is]; rfl
theorem Scal.wk1 (h : Scal v d) (hn : ∀ x, d x ≠ .lit (.slice none 0 0)) (xs : List α) : (xs.map v).map V.wk1 = xs.map v := by
 rw [List.map_map]
 refine List.map_congr_left fun x _ => ?_
 show V.wk1 (v x) = v x
 rw [h.is]
 have := hn x
 show V.d (d x).wk = _
 unfold D.wk
 split
 ·rename_i e; exact absurd e this
 ·rfl
end
@[simp] theorem all_vI (k : IntKind) (xs : List Int) : xs.all (V.cell ∘ vI k) = true := (sI k).all' xs
@[simp] theorem all_vB (xs : List Bool) : xs.all (V.cell ∘ vB) = true := sB.all' xs
@[simp] theorem all_vS (xs : List ByteArray) : xs.all (V.cell ∘ vS) = true := sS.all' xs
@[simp] theorem hasL_vI (k : IntKind) (id : Nat) (xs : List Int) : hasL id (xs.map (vI k)) = false := (sI k).hasL id xs
@[simp] theorem hasL_vB (id : Nat) (xs : List Bool) : hasL id (xs.map vB) = false := sB.hasL id xs
@[simp] theorem hasL_vS (id : Nat) (xs : List ByteArray) : hasL id (xs.map vS) = false := sS.hasL id xs
@[simp] theorem killC_vI (k : IntKind) (id : Nat) (xs : List Int) : killC id (xs.map (vI k)) = xs.map (vI k) := (sI k).killC id xs
@[simp] theorem killC_vB (id : Nat) (xs : List Bool) : killC id (xs.map vB) = xs.map vB := sB.killC id xs
@[simp] theorem killC_vS (id : Nat) (xs : List ByteArray) : killC id (xs.map vS) = xs.map vS := sS.killC id xs
@[simp] theorem closedL_vI (k : IntKind) (xs : List Int) : closedL (xs.map (vI k)) = true := (sI k).closedL xs
@[simp] theorem closedL_vB (xs : List Bool) : closedL (xs.map vB) = true := sB.closedL xs
@[simp] theorem closedL_vS (xs : List ByteArray) : closedL (xs.map vS) = true := sS.closedL xs
@[simp] theorem flatL_vI (k : IntKind) (xs : List Int) : flatL (xs.map (vI k)) = true := (sI k).flatL xs
@[simp] theorem flatL_vB (xs : List Bool) : flatL (xs.map vB) = true := sB.flatL xs
@[simp] theorem flatL_vS (xs : List ByteArray) : flatL (xs.map vS) = true := sS.flatL xs
@[simp high] theorem viewV_vI (k : IntKind) (H : Heap) (xs : List Int) : viewV H (.agg (xs.map (vI k))) = some (.agg (xs.map (vI k))) := (sI k).viewV H xs
@[simp high] theorem viewV_vB (H : Heap) (xs : List Bool) : viewV H (.agg (xs.map vB)) = some (.agg (xs.map vB)) := sB.viewV H xs
@[simp high] theorem viewV_vS (H : Heap) (xs : List ByteArray) : viewV H (.agg (xs.map vS)) = some (.agg (xs.map vS)) := sS.viewV H xs
@[simp] theorem viewD_vI (k : IntKind) (H : Heap) (n : Nat) (xs : List Int) : mapO (viewD H n) (xs.map (vI k)) = some (xs.map (dI k)) := (sI k).viewD H n xs
@[simp] theorem viewD_vB (H : Heap) (n : Nat) (xs : List Bool) : mapO (viewD H n) (xs.map vB) = some (xs.map dB) := sB.viewD H n xs
@[simp] theorem viewD_vS (H : Heap) (n : Nat) (xs : List ByteArray) : mapO (viewD H n) (xs.map vS) = some (xs.map dS) := sS.viewD H n xs
@[simp] theorem frz1_vI (k : IntKind) (id : Nat) (es : List (List D)) : V.frz1 id es ∘ vI k = vI k := rfl
@[simp] theorem frz1_vB (id : Nat) (es : List (List D)) : V.frz1 id es ∘ vB = vB := rfl
@[simp] theorem frz1_vS (id : Nat) (es : List (List D)) : V.frz1 id es ∘ vS = vS := rfl
@[simp] theorem frzP_vI (k : IntKind) (id : Nat) (es : List D) : frzP id es ∘ vI k = vI k := rfl
@[simp] theorem frzP_vB (id : Nat) (es : List D) : frzP id es ∘ vB = vB := rfl
@[simp] theorem wk1_vI (k : IntKind) : V.wk1 ∘ vI k = vI k := rfl
@[simp] theorem wk1_vB : V.wk1 ∘ vB = vB := rfl
@[simp] theorem wk1_vS : V.wk1 ∘ vS = vS := rfl
attribute [simp] List.drop_eq_nil_of_le

/-! ### indices -/
/-- an index into an array -/
def arrI (i : Int) (n : Nat) : Option Nat := if 0 ≤ i ∧ i < n then some i.toNat else none
/-- a list of the array's length -/
def lenL {α : Type} (n : Nat) (xs : List α) : Option (List α) := if xs.length = n then some xs else none
/-- a part of an array -/
def subL {α : Type} (xs : List α) (o n : Nat) : Option (List α) := if o + n ≤ xs.length then some ((xs.drop o).take n) else none
/-- a cell is set -/
def setN {α : Type} (xs : List α) (o : Nat) (x : α) : Option (List α) := if o < xs.length then some (xs.set o x) else none
end Go.Ab
end
section
namespace Go.Ab
open Go.RowKit

/-- v names the row 0 -/
def FunO (P : Program) (f : FuncId) (args : List V) (v : V) (blk : Blk) : Prop := Fun P f args (fun r k => r.ren 0 = v ∧ k = some blk)
def FinO (P : Program) (fn : Func) (v : V) (blk : Blk) (e : Exit) (S : St) : Prop :=
 (e = .normal ∨ e = .ret) ∧ ∃ r, outV (tyOf P) fn.results.toList S = some r ∧ ∃ id T n es, r.only id = true ∧ S.hp id = some (.arr T n es) ∧ r.ren 0 = v ∧ blk = .arr T n es

theorem FinO.ret {P : Program} {fn : Func} {v : V} {blk : Blk} {S : St} (r : V) (id : Nat) {T n : Nat} {es : List (List D)} (h1 : outV (tyOf P) fn.results.toList S = some r) (h2 : r.only id = true) (h3 : S.hp id = some (.arr T n es)) (h4 : r.ren 0 = v) (h5 : blk = .arr T n es) : FinO P fn v blk .ret S :=
 ⟨.inr rfl, r, h1, id, T, n, es, h2, h3, h4, h5⟩

theorem FunO.enter {P : Program} {f : FuncId} {fn : Func} {c : Code} {args : List V} {v : V} {blk : Blk} (nt : Nat) (l : List (Nat × V)) (hf : P.funcs[f]? = some fn) (hb : fn.body = some c) (hle : args.length ≤ fn.ntmps) (hn : fn.ntmps = nt) (hl : enterL args 0 = l)
  (h : AW P c (mk nt [] l []) (FinO P fn v blk)) : FunO P f args v blk := by
 subst hn; subst hl
 exact Fun.fin hf hb hle (h.mono fun _ _ ⟨h1, r, h2, id, T, n, es, h3, h4, h5, h6⟩ => ⟨h1, r, h2, .inr ⟨id, T, n, es, h3, h4, h5, by rw [h6]⟩⟩)

mutual
theorem ren_ren {d e : Nat} : ∀ (c : V), (c.ren e).ren d = c.ren d
 | .d _ => rfl
 | .dx _ => rfl
 | .ref .. => rfl
 | .ptr .. => rfl
 | .mref _ => rfl
 | .hole => rfl
 | .junk => rfl
 | .agg cs => by simp only [V.ren]; rw [renL_renL cs]
 | .tup cs => by simp only [V.ren]; rw [renL_renL cs]
 | .fn f cs => by simp only [V.ren]; rw [renL_renL cs]
theorem renL_renL {d e : Nat} : ∀ (cs : List V), renL d (renL e cs) = renL d cs
 | [] => rfl
 | c :: cs => by simp only [renL]; rw [ren_ren c, renL_renL cs]
end

/-- a call that hands back a row of its own -/
theorem Chain.callO {P : Program} {ops : Array Oper} {o : Oper} {l : List Oper} {S : St} {Q' : St → Prop} {c : Call} {d : Nat} {f : FuncId} {caps args : List V} {v : V} {T n : Nat} {es : List (List D)} (hF : FunO P f args v (.arr T n es)) (hw : wantedV ops S o = some true) (ho : o.op = .call c) (hd : o.dst = some d)
  (hcal : calleeV S c = some (f, caps)) (hargs : mapO (viewV S.hp) (c.args.toList.map S.ev ++ caps) = some args) (hent : Rp.Enters P f) (hid : S.rts.contains d = false)
  (hclo : c.args.toList.map S.ev ++ caps = args ∧ closedL args = true)
  (hrest : Chain false P ops l (((S.kill d).setH d (some (.arr T n es))).put (some d) (v.ren d)) Q') : Chain false P ops (o :: l) S Q' := by
 refine Chain.call hw ho hd hcal hargs hent hF hid (.inl hclo) fun r k hq => ?_
 obtain ⟨h1, rfl⟩ := hq
 unfold St.got
 rw [← ren_ren (d := d) (e := 0) r, h1]
 exact hrest
end Go.Ab
end
section
namespace Go.Ab
open Go.RowKit

end Go.Ab
end
section
namespace Go.Ab
open Go.RowKit Go.MapKept

/-! ### functions without captured variables -/
def V.wf : V → V
 | .d (.lit (.func f _ _)) => .fn f []
 | v => v
theorem RV.wf {E : Env} {w : World} {c : V} {v : Value} (h : RV E w c v) : RV E w c.wf v := by
 unfold V.wf
 split
 ·rename_i f a b
  have h : RD w E.Z (.lit (.func f a b)) v := h
  obtain ⟨rfl, hp⟩ := h
  simp only [plain, Bool.and_eq_true, Array.isEmpty_iff] at hp
  obtain ⟨rfl, rfl⟩ := hp
  exact ⟨[], rfl, rfl⟩
 ·exact h
theorem FunC.argsF {P : Program} {f : FuncId} {args args' : List V} {v v' : V} (h : FunC P f args' v') (ha : args' = args.map V.wf) (hv : v' = v) : FunC P f args v := by
 subst ha; subst hv
 exact ⟨h.1, fun w Z vals hg hz hx => h.2 w Z vals hg hz (RVs.frz (fun _ _ h => RV.wf h) hx)⟩

/-! ### maps as data -/
def vof (ag : Bool) (e : List D) : V := if ag then .agg (e.map .d) else (match e with | [d] => .d d | _ => .junk)
def mpiL (ag : Bool) : List MKey → List (List D) → List (MKey × V)
 | k :: ks, e :: vs => (k, vof ag e) :: mpiL ag ks vs
 | _, _ => []

theorem REs_RDx {κ α : Type} {E : Env} {w : World} {ag : Bool} {kf : κ → MKey} {vf : α → V} {cf : α → List D} (hvf : ∀ x, vf x = vof ag (cf x)) (hlen : ag = false → ∀ x, (cf x).length = 1) : ∀ {m : List (κ × α)} {es : List MapEntry},
  REs E w (encM kf vf m) es → es.map (·.key) = (m.map (kf ∘ Prod.fst)).map MKey.enc ∧ RDx w E.Z ag (m.map (cf ∘ Prod.snd)) (es.map (·.val))
 | [], es, h => by
  have h : es = [] := h
  subst h
  exact ⟨rfl, rfl⟩
 | (k, x) :: m, es, h => by
  obtain ⟨e, r, rfl, h1, h2, _, h4⟩ := h
  obtain ⟨g1, g2⟩ := REs_RDx hvf hlen h4
  refine ⟨by simp only [List.map_cons, h1, g1]; rfl, ?_⟩
  simp only [List.map_cons, Function.comp]
  have h2 : RV E w (vf x) e.val := h2
  rw [hvf] at h2
  unfold vof at h2
  cases ag with
  | true =>
   rw [if_pos rfl] at h2
   obtain ⟨vs, q1, _, q3⟩ := h2
   exact ⟨e.val, vs, _, rfl, RVs_d.1 q3, by rw [if_pos rfl]; exact q1, g2⟩
  | false =>
   rw [if_neg (by decide)] at h2
   have hl := hlen rfl x
   match hc : cf x, hl with
   | [d], _ =>
    rw [hc] at h2
    exact ⟨e.val, [e.val], _, rfl, ⟨_, _, rfl, h2, rfl⟩, by rw [if_neg (by decide)], g2⟩

def frzM (id : Nat) (x : D) : V → V
 | .mref i => if i = id then .d x else .mref i
 | v => v
/-- an own map becomes data -/
theorem Sub.freezeM {κ α : Type} {nt : Nat} {rts : List Nat} {l : List (Nat × V)} {h : List (Nat × Option Blk)} (id : Nat) {kd : TypeDesc} {ag : Bool} {kf : κ → MKey} {vf : α → V} {cf : α → List D} (m : List (κ × α)) (hes : hlook h id = some (.mp kd (encM kf vf m)))
  (hvf : ∀ x, vf x = vof ag (cf x)) (hlen : ag = false → ∀ x, (cf x).length = 1) : Sub (mk nt rts l h) (mk nt rts (liftL (frzM id (.mpi kd ag (m.map (kf ∘ Prod.fst)) (m.map (cf ∘ Prod.snd)))) l) (liftH id (frzM id (.mpi kd ag (m.map (kf ∘ Prod.fst)) (m.map (cf ∘ Prod.snd)))) h)) :=
 Sub.toZ id (frzM id _) hes rfl fun E w hold E' hl hz hb c v hc => by
  have keep : RV E' w c v := RV.keep (fun _ _ => rfl) hz hl c v hc
  cases c with
  | mref i =>
   show RV E' w (if i = id then _ else _) v
   split
   ·rename_i hi
    subst hi
    obtain ⟨hn, hkeys, es, clock, hbk, hst, hre⟩ := hold
    have hv : v = .map (some (E.loc i).b) := hc
    obtain ⟨g1, g2⟩ := REs_RDx hvf hlen hre
    refine ⟨(E.loc i).b, es, clock, hv, hb hn, hbk, hst, fun k hk => ?_, g1, RDx.keep (fun _ _ => rfl) hz _ _ _ g2⟩
    obtain ⟨p, hp, rfl⟩ := List.mem_map.1 hk
    exact hkeys (kf p.1, vf p.2) (List.mem_map.2 ⟨p, hp, rfl⟩)
   ·exact keep
  | d x => exact keep
  | ref i off len => exact keep
  | ptr i k off => exact keep
  | agg cs => exact keep
  | tup cs => exact keep
  | fn f cs => exact keep
  | dx es => exact keep
  | hole => exact keep
  | junk => trivial
attribute [simp] frzM

section
variable {κ α : Type} [DecidableEq κ]
end

/-! ### strings -/
def idxB (s : ByteArray) (i : Int) : Option Int := if 0 ≤ i then (s[i.toNat]?).map fun b => (b.toNat : Int) else none
def catB (a b : ByteArray) : Option ByteArray := if a.size + b.size ≤ Rp.reach then some (a ++ b) else none
def maxI (x y : Int) : Int := if x < y then y else x
def minI (x y : Int) : Int := if y < x then y else x

/-- bytes as a string -/
def bstr (l : List Int) : ByteArray := ⟨(l.map fun n => UInt8.ofNat n.toNat).toArray⟩
end Go.Ab
end
section
namespace Go.Ab
open Go.RowKit

/-- the capacity of nil -/
theorem pure_capNil {P : Program} {S : St} {c : Call} {t e : TypeId} {tt : TI} {x : Operand} (hc : c.callee = .builtin .cap) (hca : c.args = #[x]) (hct : c.argTypes = #[t]) (hT : tyOf P t = some tt) (hd : tt.desc = .slice e) (hx : S.ev x = .d (.lit (.slice none 0 0))) :
  Pure P (.call c) S (.d (.lit (.int .i64 0))) := by
 intro E w ρ oo hoo ok hev
 have h := hev x
 rw [hx] at h
 have h := RD_lit h
 have htu : P.underlying t = some (.slice e) := by rw [(tyOf_spec hT).1, hd]
 refine ⟨.int .i64 0, ⟨rfl, rfl⟩, fun w' _ => ?_⟩
 unfold execOp
 rw [hoo]
 simp [resolve, hc, hca, hct, invoke, builtin, Builtin.cap_, run_underlying htu, h, goInt]
/-- the empty part of nil -/
theorem pure_sliceNil {P : Program} {S : St} {T e : TypeId} {ti te : TI} {x y : Operand} (hT : tyOf P T = some ti) (hd : ti.desc = .slice e) (he : tyOf P e = some te) (hx : S.ev x = .d (.lit (.slice none 0 0))) (hy : S.ev y = .d (.lit (.int .i64 0))) :
  Pure P (.slice T x none (some y) none) S (.d (.lit (.slice none 0 0))) := by
 intro E w ρ oo hoo ok hev
 have h := hev x
 rw [hx] at h
 have h := RD_lit h
 have g := hev y
 rw [hy] at g
 have g := RD_lit g
 have htu : P.underlying T = some (.slice e) := by rw [(tyOf_spec hT).1, hd]
 refine ⟨.slice none 0 0, ⟨rfl, rfl⟩, fun w' _ => ?_⟩
 unfold execOp
 rw [hoo]
 simp [Instr.sliceAt, Instr.slice, run_underlying htu, h, g, Instr.sliceBounds, Instr.sliceBound, asIntOf, run_sizeOf he]

/-- zeros behind nil -/
theorem Chain.appMk {P : Program} {ops : Array Oper} {o : Oper} {l : List Oper} {S : St} {Q : St → Prop} {c : Call} {s x : Operand} {t tn e : TypeId} {tt tq te : TI} {d : Nat} {k kn : IntKind} {n : Nat} (hw : wantedV ops S o = some true) (ho : o.op = .call c)
  (hc : c.callee = .builtin .append) (hca : c.args = #[s, x]) (hct : c.argTypes = #[t, tn]) (hT : tyOf P t = some tt) (hd : tt.desc = .slice e) (hTn : tyOf P tn = some tq) (hdn : tq.desc = .int kn) (he : tyOf P e = some te) (hdst : o.dst = some d) (hid : S.rts.contains d = false)
  (hs : S.ev s = .d (.lit (.slice none 0 0))) (hx : S.ev x = .d (.lit (.int k n))) (hn : 0 < n)
  (hsz : 0 < te.size) (hpb : 0 < te.bytes) (hzc : te.zero.cells.size = te.size) (hzp : te.zero.cells.toList.all plain = true) (hbytes : n * te.bytes ≤ Rp.reach)
  (h : Chain false P ops l (((S.kill d).setH d (some (.arr e te.size (List.replicate n (te.zero.cells.toList.map .lit))))).put (some d) (.ref d 0 n)) Q) : Chain false P ops (o :: l) S Q := by
 intro fx a w Q' ⟨E, md⟩ hq
 unfold wpList
 rw [if_pos (wantedV_sound md hw)]
 refine .inl ?_
 have hid' : d ∉ S.rts := by simpa using hid
 have hsv := md.ev s
 rw [hs] at hsv
 have hsv := RD_lit hsv
 have hxv := md.ev x
 rw [hx] at hxv
 have hxv := RD_lit hxv
 obtain ⟨hu, i0, hi0, hi1, hi2, hi3⟩ := tyOf_spec he
 have htu : P.underlying t = some (.slice e) := by rw [(tyOf_spec hT).1, hd]
 have htn : P.underlying tn = some (.int kn) := by rw [(tyOf_spec hTn).1, hdn]
 have hnm : n ≤ Rp.reach := Nat.le_trans (Nat.le_mul_of_pos_right _ hpb) hbytes
 unfold Rp.reach at hnm hbytes
 have hrun := Lib.run_append_nil_zeros (P := P) w t tn o.type e i0 te.zero k kn htu htn hi0 hi3 n hn (by omega) (by omega) (by rw [hi2]; omega)
 have hml : n ≤ maxLen := by unfold maxLen; omega
 have hge := grownCap_ge w n 0 e
 have hle := grownCap_le_maxLen w n 0 e hml
 have md' : Mod fx S E a w.drew := md.grow ((Below.refl _ w).drew)
 have hreps := RDe_reps (w := w.drew) (Z := E.Z) hzp n
 have hz0 : ∀ q, (Builtin.zeroCells te.zero.cells q).size = q * te.size := fun q => by unfold Builtin.zeroCells; rw [Array.size_map, Array.size_range, hzc]
 obtain ⟨E', m', hr⟩ := md'.newArr (d := d) hid' (e := e) (n := te.size) (es := List.replicate n (te.zero.cells.toList.map D.lit)) (c := Builtin.zeroCells te.zero.cells n ++ Builtin.zeroCells te.zero.cells (grownCap w n 0 e - n)) (cap := grownCap w n 0 e) hsz
  (fun x hx => by rw [(List.mem_replicate.1 hx).2, List.length_map, Array.length_toList, hzc]) (by simpa using hge) hle (by rw [Array.size_append, hz0, hz0, ← Nat.add_mul]; congr 1; omega) hreps (by
   rw [List.length_replicate, Array.toList_append, List.take_left']
   ·rfl
   ·rw [Array.length_toList, hz0])
 simp only [List.length_replicate] at hr
 unfold Oper.wp execOp
 simp only [ho, resolve, hc, hca, hct, invoke, builtin, Sem.run_bind, Sem.run_pure, Result.andThen_ok, List.map_toArray, List.map_cons, List.map_nil, hsv, hxv, hrun, Oper.upon, hdst]
 exact h fx _ _ Q' ⟨E', m'.put (some d) hr⟩ hq
end Go.Ab
end
section
namespace Go.Ab
open Go.RowKit

def growL (b : Nat) (n : Int) : Option Unit := if 0 ≤ n ∧ n.toNat * b ≤ Rp.reach then some () else none
theorem growL_some {b : Nat} {n : Int} {u : Unit} (h : growL b n = some u) : ∃ k : Nat, n = k ∧ k * b ≤ Rp.reach := by
 obtain ⟨h1, _⟩ := gsome h
 exact ⟨n.toNat, by omega, h1.2⟩
def cM {κ α : Type} (kd : TypeDesc) (ag : Bool) (kf : κ → MKey) (cf : α → List D) (m : List (κ × α)) : List D := [.mpi kd ag (m.map (kf ∘ Prod.fst)) (m.map (cf ∘ Prod.snd))]
attribute [simp] cM
@[simp] theorem all_cM {κ α : Type} (kd : TypeDesc) (ag : Bool) (kf : κ → MKey) (cf : α → List D) (xs : List (List (κ × α))) : xs.all ((fun e => decide (e.length = 1)) ∘ cM kd ag kf cf) = true := all_len (c := cM kd ag kf cf) (fun _ => rfl) xs
/-- a struct as a map's value -/
def vA {α : Type} (c : α → List D) (x : α) : V := .agg ((c x).map .d)
/-- a slice as a map's value -/
def vO {α : Type} (c : α → List D) (xs : List α) : V := .d (.sl (xs.map c))
@[simp ↓] theorem toList_beqD (x y : ByteArray) : (x.toList == y.toList) = decide (x = y) := toList_beq x y
theorem idx_someN {α : Type} {xs : List α} {n : Nat} {x : α} (h : idx xs (n : Int) = some x) : xs[n]? = some x ∧ n < xs.length ∧ ∀ h : n < xs.length, xs[n]'h = x := by
 obtain ⟨k, h1, h2, _, _⟩ := idx_some h
 simp at h1
 subst h1
 obtain ⟨h3, h4⟩ := List.getElem?_eq_some_iff.1 h2
 exact ⟨h2, h3, fun _ => h4⟩
theorem Sub.tt {nt : Nat} {rts : List Nat} {l l' : List (Nat × V)} {h h' : List (Nat × Option Blk)} (hl : ∀ p ∈ l', p.2 = tlook l p.1 := by simp) (hh : ∀ p ∈ h', p.2 = hlook h p.1 := by simp) : Sub (mk nt rts l h) (mk nt rts l' h') := .table hl hh
end Go.Ab
end
section
namespace Go.Ab
open Go.RowKit

/-- an object or none -/
def ocase {α β : Type} (o : Option α) (a : Option β) (b : α → Option β) : Option β := match o with
 | none => a
 | some x => b x
theorem osome {α β : Type} {o : Option α} {a : Option β} {b : α → Option β} {r : β} (h : ocase o a b = some r) : (o = none ∧ a = some r) ∨ ∃ x, o = some x ∧ b x = some r := by
 cases o with
 | none => exact .inl ⟨rfl, h⟩
 | some x => exact .inr ⟨x, rfl, h⟩

end Go.Ab
end
section
namespace Go.Ab
open Go.RowKit

def natZ (i : Int) : Option Nat := if 0 ≤ i then some i.toNat else none
end Go.Ab
end
section
namespace Go.Ab
open Go.RowKit

mutual
theorem RV.relo {E E' : Env} {w : World} (hz : E'.Z = E.Z) : ∀ (c : V) (x : Value), (∀ id, c.has id = true → E'.loc id = E.loc id) → RV E w c x → RV E' w c x
 | .d x, v, _, h => by unfold RV at h ⊢; rw [hz]; exact h
 | .ref i off len, v, hh, h => by
  unfold RV at h ⊢
  rw [hh i (by simp [V.has])]
  exact h
 | .ptr i k off, v, hh, h => by
  unfold RV at h ⊢
  rw [hh i (by simp [V.has])]
  exact h
 | .mref i, v, hh, h => by
  unfold RV at h ⊢
  rw [hh i (by simp [V.has])]
  exact h
 | .agg cs, v, hh, ⟨vs, h1, h2, h3⟩ => ⟨vs, h1, h2, RVs.relo hz cs vs (fun id h => hh id (by simpa [V.has] using h)) h3⟩
 | .tup cs, v, hh, ⟨vs, h1, h2⟩ => ⟨vs, h1, RVs.relo hz cs vs (fun id h => hh id (by simpa [V.has] using h)) h2⟩
 | .fn f cs, v, hh, ⟨vs, h1, h2⟩ => ⟨vs, h1, RVs.relo hz cs vs (fun id h => hh id (by simpa [V.has] using h)) h2⟩
 | .dx es, v, _, h => by unfold RV at h ⊢; rw [hz]; exact h
 | .hole, _, _, h => h
 | .junk, _, _, _ => trivial
theorem RVs.relo {E E' : Env} {w : World} (hz : E'.Z = E.Z) : ∀ (cs : List V) (vs : List Value), (∀ id, hasL id cs = true → E'.loc id = E.loc id) → RVs E w cs vs → RVs E' w cs vs
 | [], vs, _, h => h
 | c :: cs, vs, hh, ⟨v, r, h1, h2, h3⟩ => ⟨v, r, h1, RV.relo hz c v (fun id h => hh id (by simp [hasL, h])) h2, RVs.relo hz cs r (fun id h => hh id (by simp [hasL, h])) h3⟩
end

/-- a block that is no one's -/
def Free (H : Heap) (E : Env) (D : Nat) : Prop := (∀ i, H i ≠ none → ¬ (E.loc i).own D) ∧ ¬ E.Z D
def Env.more (E : Env) (Z : Nat → Prop) : Env := ⟨E.loc, fun b => E.Z b ∨ Z b⟩

/-- a frame that begins here -/
def Fx.now (W : World) (E : Env) (H : Heap) (roots : List (Nat × Loc)) (d : List Deferred) (ro : Option Nat) (h : ∀ l, ro = some l → Free H E l ∧ ∃ r, W.heap[l]? = some (.loop r)) (g : GO E H W) : Fx :=
 ⟨W, E.Z, lof E H, roots, d, ro, fun l e => by
  obtain ⟨⟨h1, h2⟩, r, h3⟩ := h l e
  exact ⟨(Array.getElem?_eq_some_iff.1 h3).1, fun ⟨i, a, b⟩ => h1 i a b, h2, r, h3⟩, g.gw, g.own⟩

theorem Mod.now {fx : Fx} {S : St} {E : Env} {a : Act} {W : World} (m : Mod fx S E a W) (roots : List (Nat × Loc)) (d : List Deferred) (ro : Option Nat) (h : ∀ l, ro = some l → Free S.hp E l ∧ ∃ r, W.heap[l]? = some (.loop r))
  (hr : ∀ r ∈ roots, r.1 ∈ S.rts ∧ E.loc r.1 = r.2) : Mod (Fx.now W E S.hp roots d ro h m.go) S E { a with defers := d } W :=
 ⟨m.nt, m.slots, rfl, m.ok, ⟨rfl, rfl, rfl, Nat.le_refl _, fun _ _ _ => rfl⟩, fun i hi _b hn => .inr ⟨i, hi, hn⟩, fun _ h => .inl h, hr⟩

/-- what happened since W left the loop's frame as it must be -/
structure Since (W : World) (E : Env) (H : Heap) (lp : Nat) (W3 : World) (E3 : Env) (H3 : Heap) : Prop where
 os : W3.os = W.os
 tape : W3.tape = W.tape
 output : W3.output = W.output
 size : W.heap.size ≤ W3.heap.size
 block : ∀ b, b < W.heap.size → ¬ lof E H b → b ≠ lp → W3.heap[b]? = W.heap[b]?
 mine : ∀ i, H3 i ≠ none → ∀ b, (E3.loc i).own b → W.heap.size ≤ b ∨ lof E H b
 z : ∀ b, E3.Z b → E.Z b ∨ W.heap.size ≤ b ∨ lof E H b

theorem Mod.resume {fx : Fx} {nt : Nat} {rts : List Nat} {sl : Nat → V} {H : Heap} {E : Env} {a : Act} {W : World} (m : Mod fx ⟨nt, rts, sl, H⟩ E a W) {lp : Nat} (hlp : fx.w0.heap.size ≤ lp) (hlf : Free H E lp)
  {fx3 : Fx} {S3 : St} {E3 : Env} {a3 : Act} {W3 : World} (m3 : Mod fx3 S3 E3 a3 W3) (s : Since W E H lp W3 E3 S3.hp) (hids : ∀ t id, (sl t).has id = true → E3.loc id = E.loc id) (hroots : ∀ r ∈ fx.roots, E3.loc r.1 = E.loc r.1) :
  Mod fx ⟨nt, rts, sl, S3.hp⟩ (E3.more E.Z) a W3 := by
 have hk : Keeps E.Z W W3 := fun b hb => s.block b (m.ok.zlt b hb) (fun ⟨i, hi, hn⟩ => m.ok.apart i hi b hn hb) (fun e => hlf.2 (e ▸ hb))
 refine ⟨m.nt, fun t => ?_, m.dfr, ⟨fun id k hh => ?_, m3.ok.inj, fun i hi b hn h => ?_, fun b hb => ?_, m3.ok.xlt⟩, ⟨s.os.trans m.frame.os, s.tape.trans m.frame.tape, s.output.trans m.frame.output, Nat.le_trans m.frame.size s.size, fun b h1 h2 => ?_⟩, fun i hi b hn => ?_, fun b hb => ?_, fun r hr => ?_⟩
 ·have h1 : RV ⟨E.loc, (E3.more E.Z).Z⟩ W3 (sl t) (a.tmps.getD t undef) := RV.keep (E := E) (E' := ⟨E.loc, (E3.more E.Z).Z⟩) hk (fun b h => Or.inr h) rfl _ _ (m.slots t)
  exact RV.relo (E := ⟨E.loc, (E3.more E.Z).Z⟩) (E' := E3.more E.Z) rfl _ _ (fun id h => hids t id h) h1
 ·exact (m3.ok.hold id k hh).keep (E' := E3.more E.Z) (fun _ _ => rfl) (fun _ h => .inl h) rfl (fun _ _ => rfl) (Nat.le_refl _)
 ·rcases h with h | h
  ·exact m3.ok.apart i hi b hn h
  ·rcases s.mine i hi b hn with g | ⟨j, g1, g2⟩
   ·exact absurd (m.ok.zlt _ h) (by omega)
   ·exact m.ok.apart j g1 b g2 h
 ·rcases hb with h | h
  ·exact m3.ok.zlt b h
  ·exact Nat.lt_of_lt_of_le (m.ok.zlt b h) s.size
 ·have hs := m.frame.size
  refine (s.block b (by omega) (fun ⟨i, hi, hn⟩ => ?_) (by omega)).trans (m.frame.block b h1 h2)
  rcases m.mine i hi b hn with g | g
  ·omega
  ·exact h2 g
 ·have hs := m.frame.size
  rcases s.mine i hi b hn with g | ⟨j, g1, g2⟩
  ·exact .inl (by omega)
  ·exact m.mine j g1 b g2
 ·have hs := m.frame.size
  have hL : ∀ b, lof E H b → fx.w0.heap.size ≤ b ∨ fx.L b := fun b ⟨i, hi, hn⟩ => m.mine i hi b hn
  rcases hb with h | h
  ·rcases s.z b h with h | h | h
   ·exact m.z b h
   ·exact .inr (.inl (by omega))
   ·exact .inr (hL b h)
  ·exact m.z b h
 ·exact ⟨(m.roots r hr).1, (hroots r hr).trans (m.roots r hr).2⟩

theorem Since.free {W : World} {E : Env} {H : Heap} {lp : Nat} {W3 : World} {E3 : Env} {H3 : Heap} (s : Since W E H lp W3 E3 H3) {D : Nat} (hD : D < W.heap.size) (h : Free H E D) : Free H3 (E3.more E.Z) D := by
 refine ⟨fun i hi hn => ?_, fun hz => ?_⟩
 ·rcases s.mine i hi D hn with g | ⟨j, g1, g2⟩
  ·omega
  ·exact h.1 j g1 g2
 ·rcases hz with hz | hz
  ·rcases s.z D hz with g | g | ⟨j, g1, g2⟩
   ·exact h.2 g
   ·omega
   ·exact h.1 j g1 g2
  ·exact h.2 hz

/-- turning the record at the end -/
theorem Since.turn {W : World} {E : Env} {H : Heap} {lp : Nat} {W3 : World} {E3 : Env} {H3 : Heap} (s : Since W E H lp W3 E3 H3) (o : Obj) : Since W E H lp (W3.putObj lp o) E3 H3 :=
 ⟨s.os, s.tape, s.output, by rw [World.putObj_size]; exact s.size, fun b h1 h2 h3 => (World.putObj_heap_other h3).trans (s.block b h1 h2 h3), s.mine, s.z⟩

theorem Mod.since {fx : Fx} {S : St} {E : Env} {a : Act} {W : World} (m : Mod fx S E a W) {W0 : World} {E0 : Env} {H0 : Heap} (lp : Nat) (h1 : ∃ o, fx.w0 = W0.putObj lp o) (h2 : fx.L = lof E0 H0) (h3 : fx.Z0 = E0.Z) : Since W0 E0 H0 lp W E S.hp := by
 obtain ⟨o, h1⟩ := h1
 have f := m.frame
 have mi := m.mine
 have mz := m.z
 rw [h1, h2] at mi
 rw [h1, h2, h3] at mz
 have hs : fx.w0.heap.size = W0.heap.size := by rw [h1, World.putObj_size]
 refine ⟨by rw [f.os, h1]; rfl, by rw [f.tape, h1]; rfl, by rw [f.output, h1]; rfl, by rw [← hs]; exact f.size, fun b hb hl hp => ?_, fun i hi b hn => ?_, fun b hb => ?_⟩
 ·rw [f.block b (by omega) (by rw [h2]; exact hl), h1]; exact World.putObj_heap_other hp
 ·have := mi i hi b hn; rw [World.putObj_size] at this; exact this
 ·have := mz b hb; rw [World.putObj_size] at this; exact this

theorem Mod.since0 {fx : Fx} {S : St} {E : Env} {a : Act} {W : World} (m : Mod fx S E a W) {W0 : World} {E0 : Env} {H0 : Heap} (lp : Nat) (h1 : fx.w0 = W0) (h2 : fx.L = lof E0 H0) (h3 : fx.Z0 = E0.Z) : Since W0 E0 H0 lp W E S.hp := by
 subst h1
 have f := m.frame
 have mi := m.mine
 have mz := m.z
 rw [h2] at mi
 rw [h2, h3] at mz
 exact ⟨f.os, f.tape, f.output, f.size, fun b hb hl _ => f.block b hb (by rw [h2]; exact hl), mi, mz⟩

theorem Free.less {H : Heap} {E : Env} {Z : Nat → Prop} {D : Nat} (h : Free H (E.more Z) D) : Free H E D := ⟨h.1, fun g => h.2 (.inl g)⟩
theorem Free.not {H : Heap} {E : Env} {D : Nat} (h : Free H E D) : ¬ lof E H D := fun ⟨i, a, b⟩ => h.1 i a b

/-- a frame that begins with the turn of a free block -/
theorem Mod.fresh {fx : Fx} {S : St} {E : Env} {a : Act} {W : World} (m : Mod fx S E a W) {D : Nat} (hf : Free S.hp E D) (hD : gN ≤ D) (o : Obj) (roots : List (Nat × Loc)) (ro : Option Nat) (h : ∀ l, ro = some l → Free S.hp E l ∧ ∃ r, (W.putObj D o).heap[l]? = some (.loop r))
  (hr : ∀ r ∈ roots, r.1 ∈ S.rts ∧ E.loc r.1 = r.2) : Mod (Fx.now (W.putObj D o) E S.hp roots a.defers ro h ⟨m.go.gw.keep (fun b hb => World.putObj_heap_other (Nat.ne_of_lt (Nat.lt_of_lt_of_le hb hD))) (by rw [World.putObj_size]; exact Nat.le_refl _), m.go.own⟩) S E a (W.putObj D o) := by
 have hk : Keeps E.Z W (W.putObj D o) := fun b hb => World.putObj_heap_other (fun e => hf.2 (e ▸ hb))
 refine ⟨m.nt, fun t => RV.keep hk (fun _ h => h) rfl _ _ (m.slots t), rfl, ⟨fun id k hh => ?_, m.ok.inj, m.ok.apart, fun b hb => by rw [World.putObj_size]; exact m.ok.zlt b hb, fun i hi b hb => by rw [World.putObj_size]; exact m.ok.xlt i hi b hb⟩, ⟨rfl, rfl, rfl, Nat.le_refl _, fun _ _ _ => rfl⟩, fun i hi b hn => .inr ⟨i, hi, hn⟩, fun _ h => .inl h, hr⟩
 exact (m.ok.hold id k hh).keep hk (fun _ h => h) rfl (fun b hn => World.putObj_heap_other (fun e => hf.1 id (by rw [hh]; simp) (e ▸ hn))) (by rw [World.putObj_size]; exact Nat.le_refl _)

theorem Since.trans {W1 W2 W3 : World} {E1 E2 E3 : Env} {H1 H2 H3 : Heap} {lp : Nat} (x : Since W1 E1 H1 lp W2 E2 H2) (y : Since W2 E2 H2 lp W3 E3 H3) : Since W1 E1 H1 lp W3 E3 H3 := by
 have hL : ∀ b, lof E2 H2 b → W1.heap.size ≤ b ∨ lof E1 H1 b := fun b ⟨i, hi, hn⟩ => x.mine i hi b hn
 have hs := x.size
 refine ⟨y.os.trans x.os, y.tape.trans x.tape, y.output.trans x.output, Nat.le_trans x.size y.size, fun b h1 h2 h3 => ?_, fun i hi b hn => ?_, fun b hb => ?_⟩
 ·refine (y.block b (by omega) (fun h => ?_) h3).trans (x.block b h1 h2 h3)
  rcases hL b h with h | h
  ·omega
  ·exact h2 h
 ·rcases y.mine i hi b hn with h | h
  ·exact .inl (by omega)
  ·exact hL _ h
 ·rcases y.z b hb with h | h | h
  ·exact x.z b h
  ·exact .inr (.inl (by omega))
  ·exact .inr (hL _ h)
end Go.Ab
end
section
namespace Go.Ab
open Go.RowKit

def rangeL {α β ρ : Type} (step : α → β → Option (Out β ρ)) : List α → β → Option (Out β ρ)
 | [], b => some (.go b)
 | x :: xs, b => match step x b with
  | some (.go b') => rangeL step xs b'
  | some (.ret r) => some (.ret r)
  | none => none

def elemV : List D → V
 | [c] => .d c
 | cs => .agg (cs.map .d)
def elemW : List Value → Value
 | [v] => v
 | vs => .agg vs.toArray
theorem elemV_sound {E : Env} {w : World} : ∀ {cs : List D} {vs : List Value}, RDs w E.Z cs vs → RV E w (elemV cs) (elemW vs)
 | [], vs, h => by
  obtain rfl : vs = [] := h
  exact ⟨[], rfl, fun c h => by simp at h, rfl⟩
 | [c], vs, h => by
  obtain ⟨v, r, rfl, h1, h2⟩ := h
  obtain rfl : r = [] := h2
  exact h1
 | c :: d :: cs, vs, h => by
  have h' := RVs_d.2 h
  obtain ⟨v, r, rfl, h1, v', r', rfl, h2, h3⟩ := h
  exact ⟨_, rfl, fun c h => by obtain ⟨x, _, rfl⟩ := List.mem_map.1 h; rfl, h'⟩

@[simp] theorem elemV_one (c : D) : elemV [c] = .d c := rfl
@[simp] theorem elemV_two (c d : D) (cs : List D) : elemV (c :: d :: cs) = .agg ((c :: d :: cs).map .d) := rfl

attribute [simp] V.wk1 D.wk

structure SrcOk (H : Heap) (src : V) (es : List (List D)) (m : Nat) : Prop where
 len : ∀ (E : Env) (w : World) (u : Value), E.ok H w → RV E w src u → es.length ≤ maxLen ∧ ∃ A cap, u = .slice A es.length cap
 get : ∀ (E : Env) (w : World) (u : Value), E.ok H w → RV E w src u → ∀ (j : Nat) (e : List D), es[j]? = some e → ∃ b off cap vs, u = .slice (some ⟨b, off, none⟩) es.length cap ∧ RDs w E.Z e vs ∧ w.rangeAt b (off + j * m) vs
theorem SrcOk.of {H : Heap} {src : V} {es : List (List D)} {m : Nat} (hl : lenV src = some es.length) (h1 : ∀ (E : Env) (w : World) (u : Value), E.ok H w → RV E w src u → es.length ≤ maxLen) (h2 : ∀ (j : Nat) (e : List D), es[j]? = some e → ∃ r, idxS H src (j : Int) m = some r ∧ cellsAt H r = some (e.map .d)) : SrcOk H src es m :=
 ⟨fun E w u ok h => ⟨h1 E w u ok h, lenV_sound h hl⟩, fun E w u ok h j e he => by
  obtain ⟨A, cap, hu⟩ := lenV_sound h hl
  obtain ⟨r, hr, hc⟩ := h2 j e he
  obtain ⟨b, o, len, cap', hu', _, _, hr'⟩ := idxS_sound ok h hr
  obtain ⟨b', o', vs, hp, g1, g2, _, _⟩ := cellsAt_sound ok hr' hc
  rw [hu] at hu'
  injection hu' with e1 e2 e3
  injection hp with hp
  injection hp with hp
  injection hp with q1 q2
  refine ⟨b, o, cap, vs, by rw [hu, e1], RVs_d.1 g1, ?_⟩
  rw [← q1, ← q2] at g2
  simpa using g2⟩
theorem SrcOk.data {H : Heap} {es : List (List D)} {m : Nat} (hm : ∀ e ∈ es, e.length = m) : SrcOk H (.d (.sl es)) es m :=
 SrcOk.of rfl (fun E w u ok h => by obtain ⟨A, cap, _, h1, h2, _⟩ := h; omega) fun j e he => ⟨.d (.pim e), by simp [idxS, he, hm e (List.mem_of_getElem? he)], rfl⟩
theorem SrcOk.own {H : Heap} {es : List (List D)} {m id T : Nat} (h : H id = some (.arr T m es)) : SrcOk H (.ref id 0 es.length) es m :=
 SrcOk.of rfl (fun E w u ok _ => by
  obtain ⟨_, _, _, _, h5⟩ := ok.hold _ _ h
  rcases h5 with ⟨_, h6⟩ | ⟨_, c, flat, _, h7, h8, _⟩
  ·rw [h6]; exact Nat.zero_le _
  ·omega) fun j e he => ⟨.ptr id j 0, by simp [idxS, h, (List.getElem?_eq_some_iff.1 he).1], by simp [cellsAt, h, he]⟩

/-- what the iterator hands over in round k: the elements from the last to the first -/
def BackArg (m : Nat) (p : Addr) (N k : Nat) (W : World) (args : Array Value) : Prop :=
 ∃ b off cap vs, W.cell? p = some (.slice (some ⟨b, off, none⟩) N cap) ∧ W.rangeAt b (off + (N - 1 - k) * m) vs ∧ vs.length = m ∧ args = #[.int .i64 ((N - 1 - k : Nat) : Int), elemW vs]
def BackC (P : Program) (gf m : Nat) : Prop :=
 ∀ (pb po l N : Nat) (J : Nat → World → Prop) (Jx : World → Prop) (W : World), N ≤ maxLen →
  (∀ k W, k ≤ N → J k W → ∃ A cap, W.cell? ⟨pb, po, none⟩ = some (.slice A N cap)) →
  (∀ k W, k < N → J k W → ∃ args, BackArg m ⟨pb, po, none⟩ N k W args ∧ YieldAt Fence.wide 6 P l args W fun e W' => (e = .returned (.bool true) ∧ J (k + 1) W') ∨ (e = .returned (.bool false) ∧ Jx W')) →
  J 0 W → CallsIn Fence.wide 7 P gf #[.func (.yield l) #[] #[], .pointer (some ⟨pb, po, none⟩)] W fun e W' => (∃ v, e = .returned v) ∧ (J N W' ∨ Jx W')

theorem callsIn_rd {ro : Option Nat} {n k : Nat} {P : Program} {f : FuncId} {args : Array Value} {w : World} {R : Ending → World → Prop} (h : CallsIn Fence.wide n P f args w R) : CallsIn (Rd ro) k P f args w R := rd_calls (callsIn_wide.1 h)
theorem wpIn_any {ro : Option Nat} {n k : Nat} {P : Program} {c : Code} {Q : Exit → Act → World → Prop} {a : Act} {w : World} (h : c.wpIn (Rd ro) n P Q a w) : c.wpIn (Rd ro) k P Q a w := fun b kk cs h1 h2 _ => h b kk cs h1 h2 (fun _ hd => by cases hd)

theorem run_enterLoop_inner {P : Program} {w : World} {l0 : Nat} {r0 : Loop} (h : w.heap[l0]? = some (.loop r0)) (fn : FuncId) (tmps : Array Value) (ps : Array Tmp) (assign body : Code) :
  (Instr.enterLoop fn tmps ps assign body (some l0)).run P w = .ok (w.heap.size, []) (w.alloc (.loop { state := .ready, pending := none, fn, tmps, params := ps, assign, body, defers := r0.defers })) := by
 unfold Instr.enterLoop
 simp only [Sem.run_bind, run_getLoop h, run_newObj_alloc, Result.andThen, Sem.run_pure]

theorem grow_alloc (w : World) (o : Obj) : Grow w (w.alloc o) := ⟨rfl, rfl, rfl, by simp, fun b hb => Below.heap_alloc _ _ _ hb⟩
theorem Grow.trans' {a b c : World} (h : Grow a b) (k : Grow b c) : Grow a c := ⟨k.os.trans h.os, k.tape.trans h.tape, k.output.trans h.output, Nat.le_trans h.size k.size, fun i hi => (k.block i (Nat.lt_of_lt_of_le hi h.size)).trans (h.block i hi)⟩

theorem enter_any {P : Program} {w : World} {ro : Option Nat} (h : ∀ l, ro = some l → ∃ r, w.heap[l]? = some (.loop r)) (fn : FuncId) (tmps : Array Value) (ps : Array Tmp) (assign body : Code) :
  ∃ (lp D : Nat) (ms : List Nat) (W1 : World), (Instr.enterLoop fn tmps ps assign body ro).run P w = .ok (lp, ms.map coll) W1 ∧ W1.heap[lp]? = some (.loop { state := .ready, pending := none, fn, tmps, params := ps, assign, body, defers := D }) ∧ Grow w W1 ∧ w.heap.size ≤ lp ∧ ms.Nodup ∧
   ∀ d ∈ ms, w.heap.size ≤ d ∧ d ≠ lp ∧ W1.heap[d]? = some (.deferred (some [])) := by
 cases ro with
 | none =>
  refine ⟨_, w.heap.size, [w.heap.size], _, run_enterLoop_outer fn tmps ps assign body, ?_, (grow_alloc _ _).trans' (grow_alloc _ _), by omega, by simp, fun d hd => ?_⟩
  ·have := World.alloc_heap_new (w.alloc (.deferred (some []))) (.loop { state := .ready, pending := none, fn, tmps, params := ps, assign, body, defers := w.heap.size })
   rwa [World.size_alloc] at this
  ·obtain rfl : d = w.heap.size := by simpa using hd
   exact ⟨Nat.le_refl _, by omega, (Below.heap_alloc _ _ _ (by simp)).trans (World.alloc_heap_new w _)⟩
 | some l0 =>
  obtain ⟨r0, h0⟩ := h l0 rfl
  exact ⟨_, r0.defers, [], _, run_enterLoop_inner h0 fn tmps ps assign body, World.alloc_heap_new w _, grow_alloc _ _, Nat.le_refl _, List.nodup_nil, fun d hd => by cases hd⟩

def jumpOf : Exit → Option Code
 | .ret => some .ret
 | .exit id => some (.exit id)
 | .goto t => some (.goto t)
 | _ => none

def PostR {β ρ : Type} (nt : Nat) (rts rts' : List Nat) (l : List (Nat × V)) (Hst : β → List (Nat × Option Blk)) (r : ρ) (Q : Exit → St → Prop) : Out β ρ → Exit → St → Prop
 | .go b, e, S => e = .normal ∧ Sub S (mk nt rts' [] (Hst b))
 | .ret r', e, S => jumpOf e ≠ none ∧ ∃ h', Sub S (mk nt rts' [] h') ∧ (r' = r → Q e (mk nt rts l h'))

theorem tlook_has {id : Nat} : ∀ {l : List (Nat × V)} {t : Nat}, (tlook l t).has id = true → ∃ p ∈ l, p.2.has id = true
 | [], _, h => by simp [tlook, V.has] at h
 | (k, v) :: l, t, h => by
  simp only [tlook] at h
  split at h
  ·exact ⟨_, List.mem_cons_self .., h⟩
  ·obtain ⟨p, h1, h2⟩ := tlook_has h
   exact ⟨p, List.mem_cons_of_mem _ h1, h2⟩

theorem Free.grow {H : Heap} {E : Env} {w : World} (ok : E.ok H w) {D : Nat} (h : w.heap.size ≤ D) : Free H E D :=
 ⟨fun i hi hn => by
   have := ok.own_lt hi hn
   omega, fun hz => by have := ok.zlt D hz; omega⟩

theorem rangeL_drop {α β ρ : Type} {step : α → β → Option (Out β ρ)} {xs : List α} {k : Nat} {x : α} {b : β} {o : Out β ρ} (hx : xs[k]? = some x) (h : rangeL step (xs.drop k) b = some o) :
  (∃ b', step x b = some (.go b') ∧ rangeL step (xs.drop (k + 1)) b' = some o) ∨ ∃ r', step x b = some (.ret r') ∧ o = .ret r' := by
 obtain ⟨hlt, he⟩ := List.getElem?_eq_some_iff.1 hx
 rw [List.drop_eq_getElem_cons hlt, he] at h
 simp only [rangeL] at h
 split at h
 ·rename_i b' hb; exact .inl ⟨b', hb, h⟩
 ·rename_i r' hb; injection h with h; exact .inr ⟨r', hb, h.symm⟩
 ·cases h

section
variable {P : Program} {α β ρ : Type}
set_option maxHeartbeats 1000000 in
theorem AW.back {tg : Nat} {p0 p1 : Tmp} {assign body : Code} {S : St} {Q : Exit → St → Prop} {gf mz B : Nat} {src : V} {c : α → List D} {xs : List α} {step : α → β → Option (Out β ρ)} {b0 : β} {o : Out β ρ} {r : ρ} {nt : Nat} {rts : List Nat} {l : List (Nat × V)}
  (Hst : β → List (Nat × Option Blk)) (rts' : List Nat) (hC : BackC P gf mz) (hent : Rp.Enters P gf) (h0 : Sub S (mk nt rts l (Hst b0)))
  (hg : tlook l tg = .fn (.func gf) [.ptr B 0 0]) (hB : ∀ b, hlook (Hst b) B = some (.box [src])) (hsrc : ∀ b, SrcOk (hlook (Hst b)) src (xs.map c) mz) (hm : ∀ x, (c x).length = mz)
  (hrts : ∀ i ∈ rts, i ∈ rts') (hids : ∀ p ∈ l, ∀ id, p.2.has id = true → id ∈ rts')
  (hd : rangeL step xs.reverse b0 = some o)
  (round : ∀ b x o', step x b = some o' → AW P assign (((mk nt rts' l (Hst b)).put (some p0) .junk).put (some p1) (elemV (c x))) (thenQ (fun S1 => AW P body S1 (PostR nt rts rts' l Hst r Q o')) (fun _ _ => False))) :
  AW P (.rangeFunc (.tmp tg) #[p0, p1] assign body) S (PostJ (fun b => mk nt rts l (Hst b)) r Q o) := by
 intro fx a w m0
 obtain ⟨E0, m⟩ := h0 fx a w m0
 have hgv := m.ev (.tmp tg)
 rw [show (mk nt rts l (Hst b0)).ev (.tmp tg) = .fn (.func gf) [.ptr B 0 0] from hg] at hgv
 obtain ⟨vs, hval, v0, r0, rfl, hp, rfl⟩ := hgv
 obtain ⟨hBn, rfl⟩ := hp
 have hpin0 : ∀ t id, (tlook l t).has id = true → id ∈ rts' := fun t id h => by obtain ⟨p, h1, h2⟩ := tlook_has h; exact hids p h1 id h2
 refine wpIn_rangeFunc fun fn _ => ?_
 obtain ⟨lp, Dd, ms, W1, hrun, hL1, hgr, hlp, hnd, hms⟩ := enter_any (P := P) (w := w) (ro := fx.ro) (fun l0 e => by
  obtain ⟨g1, g2, _, r0, g4⟩ := fx.lrec l0 e
  exact ⟨r0, (m.frame.block l0 g1 g2).trans g4⟩) fn a.tmps #[p0, p1] assign body
 obtain ⟨rec, hrec⟩ : ∃ rec : LoopState → Option Code → Loop, rec = fun st pe => { state := st, pending := pe, fn, tmps := a.tmps, params := #[p0, p1], assign, body, defers := Dd } := ⟨_, rfl⟩
 have hL1 : W1.heap[lp]? = some (.loop (rec .ready none)) := by rw [hrec]; exact hL1
 have hlt1 : lp < W1.heap.size := (Array.getElem?_eq_some_iff.1 hL1).1
 obtain ⟨roots, hroots⟩ : ∃ roots : List (Nat × Loc), roots = rts'.map fun i => (i, E0.loc i) := ⟨_, rfl⟩
 obtain ⟨fxl, hfxl⟩ : ∃ fxl, fxl = Fx.now w E0 (hlook (Hst b0)) roots a.defers none (fun _ h => by cases h) m.go := ⟨_, rfl⟩
 have ml : Mod fxl ⟨nt, rts', tlook l, hlook (Hst b0)⟩ E0 a w := by
  subst hfxl
  exact ⟨m.nt, m.slots, rfl, m.ok, ⟨rfl, rfl, rfl, Nat.le_refl _, fun _ _ _ => rfl⟩, fun i hi b hn => .inr ⟨i, hi, hn⟩, fun _ h => .inl h, fun r hr => by
   rw [show (Fx.now w E0 (hlook (Hst b0)) roots a.defers none (fun _ h => by cases h) m.go).roots = roots from rfl, hroots] at hr
   obtain ⟨i, hi, rfl⟩ := List.mem_map.1 hr
   exact ⟨hi, rfl⟩⟩
 have hw0 : fxl.w0 = w := by rw [hfxl]; rfl
 have hrr : fxl.roots = rts'.map fun i => (i, E0.loc i) := by rw [hfxl, ← hroots]; rfl
 have hgD : gN ≤ lp := Nat.le_trans m.go.gw.lt hlp
 -- where the pinned names lie
 have pin : ∀ {b : β} {h : List (Nat × Option Blk)} {E : Env} {W : World}, Mod fxl ⟨nt, rts', tlook l, hlook h⟩ E a W → ∀ i ∈ rts', E.loc i = E0.loc i := fun {b h E W} mm i hi =>
  (mm.roots (i, E0.loc i) (by rw [hrr]; exact List.mem_map.2 ⟨i, hi, rfl⟩)).2
 have hBin : B ∈ rts' := hpin0 tg B (by rw [hg]; simp [V.has, hasL])
 obtain ⟨J, hJ⟩ : ∃ J : Nat → World → Prop, J = fun k W => ∃ b E, rangeL step (xs.reverse.drop k) b = some o ∧ Mod fxl ⟨nt, rts', tlook l, hlook (Hst b)⟩ E a W ∧ W.heap[lp]? = some (.loop (rec .ready none)) ∧ (∀ d ∈ ms, W.heap[d]? = some (.deferred (some []))) ∧ (∀ d ∈ lp :: ms, Free (hlook (Hst b)) E d) := ⟨_, rfl⟩
 obtain ⟨Jx, hJx⟩ : ∃ Jx : World → Prop, Jx = fun W => ∃ e jc h' E r', jumpOf e = some jc ∧ o = .ret r' ∧ (r' = r → Q e (mk nt rts l h')) ∧ Mod fxl ⟨nt, rts', tlook l, hlook h'⟩ E a W ∧ W.heap[lp]? = some (.loop (rec .done (some jc))) ∧ (∀ d ∈ ms, W.heap[d]? = some (.deferred (some []))) ∧ (∀ d ∈ lp :: ms, Free (hlook h') E d) := ⟨_, rfl⟩
 have hm1 : ∀ d ∈ lp :: ms, w.heap.size ≤ d ∧ d < W1.heap.size := fun d hd => by
  rcases List.mem_cons.1 hd with rfl | h
  ·exact ⟨hlp, hlt1⟩
  ·obtain ⟨g1, _, g3⟩ := hms d h
   exact ⟨g1, (Array.getElem?_eq_some_iff.1 g3).1⟩
 have hJ0 : J 0 W1 := by
  rw [hJ]
  exact ⟨b0, E0, hd, ml.grow hgr, hL1, fun d hd => (hms d hd).2.2, fun d hd => Free.grow m.ok (hm1 d hd).1⟩
 -- the frame behind the loop
 have behind : ∀ (h : List (Nat × Option Blk)) (E : Env) (W : World), Mod fxl ⟨nt, rts', tlook l, hlook h⟩ E a W → (∀ d ∈ ms, W.heap[d]? = some (.deferred (some []))) → (∀ d ∈ lp :: ms, Free (hlook h) E d) →
   ∃ fx', Ext fx fx' ∧ Models fx' (mk nt rts l h) { a with defers := ms.map coll ++ a.defers } W := by
  intro h E W mm hmk hfree
  have hE : ∀ i ∈ rts', E.loc i = E0.loc i := pin (b := b0) mm
  have hLl : ∀ b, lof E0 (hlook (Hst b0)) b → fx.w0.heap.size ≤ b ∨ fx.L b := fun b ⟨i, hi, hn⟩ => m.mine i hi b hn
  have hfl : fxl.L = lof E0 (hlook (Hst b0)) := by rw [hfxl]; rfl
  have hzl : fxl.Z0 = E0.Z := by rw [hfxl]; rfl
  have hsw := m.frame.size
  have hfr : fx.frame W := by
   have f := mm.frame
   refine ⟨f.os.trans (hw0 ▸ m.frame.os), f.tape.trans (hw0 ▸ m.frame.tape), f.output.trans (hw0 ▸ m.frame.output), Nat.le_trans hsw (hw0 ▸ f.size), fun b h1 h2 => ?_⟩
   have := f.block b (by rw [hw0]; omega) (by rw [hfl]; intro h; rcases hLl b h with h | h; omega; exact h2 h)
   rw [hw0] at this
   exact this.trans (m.frame.block b h1 h2)
  have hmine : ∀ b, lof E (hlook h) b → fx.w0.heap.size ≤ b ∨ fx.L b := fun b ⟨i, hi, hn⟩ => by
   rcases mm.mine i hi b hn with g | g
   ·rw [hw0] at g; exact .inl (by omega)
   ·rw [hfl] at g; exact hLl _ g
  have hz : ∀ b, E.Z b → fx.Z0 b ∨ fx.w0.heap.size ≤ b ∨ fx.L b := fun b hb => by
   rcases mm.z b hb with g | g | g
   ·rw [hzl] at g; exact m.z b g
   ·rw [hw0] at g; exact .inr (.inl (by omega))
   ·rw [hfl] at g; exact .inr (hLl b g)
  have hrec' : ∀ l0, fx.ro = some l0 → Free (hlook h) E l0 ∧ ∃ r, W.heap[l0]? = some (.loop r) := fun l0 e => by
   obtain ⟨g1, g2, g3, r0, g4⟩ := fx.lrec l0 e
   refine ⟨⟨fun i hi hn => ?_, fun hz' => ?_⟩, r0, (hfr.block l0 g1 g2).trans g4⟩
   ·rcases hmine l0 ⟨i, hi, hn⟩ with g | g
    ·omega
    ·exact g2 g
   ·rcases hz l0 hz' with g | g | g
    ·exact g3 g
    ·omega
    ·exact g2 g
  refine ⟨Fx.now W E (hlook h) fx.roots (ms.map coll ++ fx.dfr) fx.ro hrec' mm.go, ⟨rfl, hfr, hmine, hz, rfl, ms, rfl, hnd, fun d hd => ?_⟩, E, ?_⟩
  ·have h1 := hm1 d (List.mem_cons_of_mem _ hd)
   have h2 := hfree d (List.mem_cons_of_mem _ hd)
   have h3 := hmk d hd
   exact ⟨by omega, (Array.getElem?_eq_some_iff.1 h3).1, h3, h2.2, fun ⟨i, a1, a2⟩ => h2.1 i a1 a2⟩
  ·refine ⟨mm.nt, mm.slots, by rw [m.dfr]; rfl, mm.ok, ⟨rfl, rfl, rfl, Nat.le_refl _, fun _ _ _ => rfl⟩, fun i hi b hn => .inr ⟨i, hi, hn⟩, fun _ h => .inl h, fun r hr => ?_⟩
   obtain ⟨g1, g2⟩ := m.roots r hr
   exact ⟨g1, (hE r.1 (hrts _ g1)).trans g2⟩
 refine ⟨lp, ms.map coll, W1, { target := .fn (.func gf) [.pointer (some ⟨(E0.loc B).b, (E0.loc B).o + 0 * (E0.loc B).n + 0, none⟩)].toArray, args := #[.func (.yield lp) #[] #[]] }, W1, gf, #[.func (.yield lp) #[] #[], .pointer (some ⟨(E0.loc B).b, (E0.loc B).o + 0 * (E0.loc B).n + 0, none⟩)], W1, hrun, ?_, fun _ _ => trivial, ?_, (fun h => by cases h), ?_⟩
 ·simp only [resolve, hval]
  simp [go_sem]
 ·have := hent #[.func (.yield lp) #[] #[], .pointer (some ⟨(E0.loc B).b, (E0.loc B).o + 0 * (E0.loc B).n + 0, none⟩)] W1
  simp [invoke, go_sem] at this ⊢
  exact this
 ·-- the box
  have rd : ∀ {b : β} {E : Env} {W : World}, Mod fxl ⟨nt, rts', tlook l, hlook (Hst b)⟩ E a W → ∃ u, W.cell? ⟨(E0.loc B).b, (E0.loc B).o + 0 * (E0.loc B).n + 0, none⟩ = some u ∧ RV E W src u := fun {b E W} mm => by
   obtain ⟨_, _, vs, hv, hra, _, _⟩ := mm.ok.hold B _ (hB b)
   obtain ⟨u, r0, rfl, hu, hr0⟩ := hv
   refine ⟨u, ?_, hu⟩
   have := hra 0 u rfl
   rw [pin (b := b) mm B hBin] at this
   simpa using this
  have hlen : xs.length ≤ maxLen := by
   obtain ⟨u, _, hu⟩ := rd ml
   have := ((hsrc b0).len E0 w u ml.ok hu).1
   simpa using this
  have hw1 : fxl.w0.heap.size ≤ lp := by rw [hw0]; exact hlp
  refine (callsIn_rd (hC _ _ lp xs.length J Jx W1 hlen ?_ ?_ hJ0)).mono ?_
  ·intro k W _ hk
   rw [hJ] at hk
   obtain ⟨b, E, _, mm, _⟩ := hk
   obtain ⟨u, h1, hu⟩ := rd mm
   obtain ⟨_, A, cap, rfl⟩ := (hsrc b).len E W u mm.ok hu
   exact ⟨A, cap, by simpa using h1⟩
  ·intro k W hk hJk
   rw [hJ] at hJk
   obtain ⟨b, E, hr, mm, hl, hmk, hfree⟩ := hJk
   obtain ⟨x, hx⟩ : ∃ x, xs.reverse[k]? = some x := ⟨_, List.getElem?_eq_getElem (by simpa using hk)⟩
   have hx2 : (xs.map c)[xs.length - 1 - k]? = some (c x) := by
    rw [List.getElem?_reverse hk] at hx
    rw [List.getElem?_map, hx]; rfl
   obtain ⟨u, h1, hu⟩ := rd mm
   obtain ⟨bb, off, cap, vs, rfl, hvs, hra⟩ := (hsrc b).get E W u mm.ok hu _ _ hx2
   have hvl : vs.length = mz := by rw [RDs_length hvs, hm]
   have hstep : ∃ o', step x b = some o' ∧ ((∃ b', o' = .go b' ∧ rangeL step (xs.reverse.drop (k + 1)) b' = some o) ∨ ∃ r', o' = .ret r' ∧ o = .ret r') := by
    rcases rangeL_drop hx hr with ⟨b', h2, h3⟩ | ⟨r', h2, h3⟩
    ·exact ⟨_, h2, .inl ⟨b', rfl, h3⟩⟩
    ·exact ⟨_, h2, .inr ⟨r', rfl, h3⟩⟩
   obtain ⟨o', hst, hcont⟩ := hstep
   refine ⟨_, ⟨bb, off, cap, vs, by simpa using h1, hra, hvl, rfl⟩, ?_⟩
   have hy := run_yield (P := P) (args := #[.int .i64 ((xs.length - 1 - k : Nat) : Int), elemW vs]) hl (by rw [hrec]; rfl)
   rw [hrec] at hy
   refine ⟨fn, _, assign, body, hy, roundIn_of_wpIn trivial ?_⟩
   clear hy
   have hfl := hfree lp (List.mem_cons_self ..)
   have hltW : lp < W.heap.size := (Array.getElem?_eq_some_iff.1 hl).1
   have hpinE := pin (b := b) mm
   have hrts1 : ∀ r ∈ roots, r.1 ∈ rts' ∧ E.loc r.1 = r.2 := fun r hr => by
    rw [hroots] at hr
    obtain ⟨i, hi, rfl⟩ := List.mem_map.1 hr
    exact ⟨hi, hpinE i hi⟩
   have m0 := mm.now roots [] (some lp) (fun l' e => by injection e with e; subst e; exact ⟨hfl, _, hl⟩) hrts1
   have m1 := (m0.put (some p0) (v := .junk) (x := .int .i64 ((xs.length - 1 - k : Nat) : Int)) trivial).put (some p1) (elemV_sound hvs)
   have hA := round b x o' hst _ _ W ⟨E, m1⟩
   refine wpIn_any (ro := some lp) (n := 0) ?_
   refine Code.wpIn_mono ?_ (show assign.wpIn (Rd (some lp)) 0 P _ _ W from by simpa [Act.put, Fx.now] using hA)
   rintro e1 a1 Wa ⟨S1, fx1, hq, hx1, E1, m1'⟩
   cases e1 with
   | normal =>
    have hq : AW P body S1 (PostR nt rts rts' l Hst r Q o') := hq
    have m1b := m1'.back hx1
    have s1 := m1b.since0 (W0 := W) (E0 := E) (H0 := hlook (Hst b)) lp rfl rfl rfl
    have hla : Wa.heap[lp]? = some (.loop (rec .ready none)) := (m1b.frame.block lp hltW hfl.not).trans hl
    have hf1 : Free S1.hp E1 lp := (s1.free hltW hfl).less
    refine ⟨_, run_beginRound hla (by rw [hrec]), ?_⟩
    have hlb : (Wa.putObj lp (.loop { rec .ready none with state := .busy })).heap[lp]? = some (.loop { rec .ready none with state := .busy }) := World.putObj_heap_same (Array.getElem?_eq_some_iff.1 hla).1
    have m2 := m1'.fresh hf1 hgD (.loop { rec .ready none with state := .busy }) roots (some lp) (fun l' e => by injection e with e; subst e; exact ⟨hf1, _, hlb⟩) (fun r hr => m1b.roots r hr)
    have hB2 := hq _ _ _ ⟨E1, m2⟩
    refine wpIn_any (ro := some lp) (n := 0) ?_
    refine Code.wpIn_mono ?_ hB2
    rintro e3 a3 W3 ⟨S3, fx3, hp3, hx3, hM3⟩
    -- the end of a round, whatever it leaves by
    have fin : ∀ (h' : List (Nat × Option Blk)) (jump : Option Code), Sub S3 (mk nt rts' [] h') → ∃ E4 W4, (Instr.endRound lp jump).run P W3 = .ok (.bool jump.isNone) W4 ∧ Mod fxl ⟨nt, rts', tlook l, hlook h'⟩ E4 a W4 ∧ W4.heap[lp]? = some (.loop (rec (if jump.isNone then .ready else .done) jump)) ∧ (∀ d ∈ ms, W4.heap[d]? = some (.deferred (some []))) ∧ (∀ d ∈ lp :: ms, Free (hlook h') E4 d) := fun h' jump hsub => by
     obtain ⟨E3, m3⟩ := hsub _ _ _ hM3
     have m3b := m3.back hx3
     have s2 := m3b.since (W0 := Wa) (E0 := E1) (H0 := S1.hp) lp ⟨_, rfl⟩ rfl rfl
     have s := s1.trans s2
     have hl3 : W3.heap[lp]? = some (.loop { rec .ready none with state := .busy }) := (m3b.frame.block lp (Array.getElem?_eq_some_iff.1 hlb).1 hf1.not).trans hlb
     have hro3 : ∀ i ∈ rts', E3.loc i = E.loc i := fun i hi => (m3b.roots (i, E0.loc i) (by show _ ∈ roots; rw [hroots]; exact List.mem_map.2 ⟨i, hi, rfl⟩)).2.trans (hpinE i hi).symm
     have mr := mm.resume hw1 hfl m3 s (fun t id h => hro3 id (hpin0 t id h)) (fun r hr => by
      rw [hrr] at hr
      obtain ⟨i, hi, rfl⟩ := List.mem_map.1 hr
      exact hro3 i hi)
     have hf4 := s.free hltW hfl
     refine ⟨_, _, run_endRound jump hl3, mr.turn _ hw1 hf4.1 hf4.2, ?_, fun d hd => ?_, fun d hd => ?_⟩
     ·rw [hrec]; exact World.putObj_heap_same (Array.getElem?_eq_some_iff.1 hl3).1
     ·have hfd := hfree d (List.mem_cons_of_mem _ hd)
      have hdl := (hms d hd).2.1
      exact (World.putObj_heap_other hdl).trans ((s.block d (Array.getElem?_eq_some_iff.1 (hmk d hd)).1 hfd.not hdl).trans (hmk d hd))
     ·refine s.free ?_ (hfree d hd)
      rcases List.mem_cons.1 hd with rfl | h
      ·exact hltW
      ·exact (Array.getElem?_eq_some_iff.1 (hmk d h)).1
    have stop : ∀ jc, jumpOf e3 = some jc → e3 ≠ .normal → ∃ v w', (Instr.endRound lp (some jc)).run P W3 = .ok v w' ∧ ((Ending.returned v = .returned (.bool true) ∧ J (k + 1) w') ∨ (Ending.returned v = .returned (.bool false) ∧ Jx w')) := fun jc hj hne => by
     rcases hcont with ⟨b', rfl, hr'⟩ | ⟨r', rfl, ho⟩
     ·exact absurd hp3.1 hne
     ·obtain ⟨_, h', hsub, hQ⟩ := hp3
      obtain ⟨E4, W4, h1, h2, h3, h4, h5⟩ := fin h' (some jc) hsub
      refine ⟨_, _, h1, .inr ⟨rfl, ?_⟩⟩
      rw [hJx]
      exact ⟨e3, jc, h', E4, r', hj, ho, hQ, h2, h3, h4, h5⟩
    cases e3 with
    | normal =>
     rcases hcont with ⟨b', rfl, hr'⟩ | ⟨r', rfl, ho⟩
     ·obtain ⟨_, hsub⟩ := hp3
      obtain ⟨E4, W4, h1, h2, h3, h4, h5⟩ := fin (Hst b') none hsub
      refine ⟨_, _, h1, .inl ⟨rfl, ?_⟩⟩
      rw [hJ]
      exact ⟨b', E4, hr', h2, h3, h4, h5⟩
     ·exact absurd rfl hp3.1
    | ret => exact stop _ rfl (by simp)
    | exit id => exact stop _ rfl (by simp)
    | goto t => exact stop _ rfl (by simp)
    | panic ch =>
     rcases hcont with ⟨b', rfl, hr'⟩ | ⟨r', rfl, ho⟩
     ·cases hp3.1
     ·exact absurd rfl hp3.1
    | outgrown =>
     rcases hcont with ⟨b', rfl, hr'⟩ | ⟨r', rfl, ho⟩
     ·cases hp3.1
     ·exact absurd rfl hp3.1
   | exit id => exact hq.elim
   | goto t => exact hq.elim
   | ret => exact hq.elim
   | panic ch => exact hq.elim
   | outgrown => exact hq.elim
  ·rintro e W2 ⟨⟨v, rfl⟩, h | h⟩
   ·rw [hJ] at h
    obtain ⟨b, E, hr, mm, hl, hmk, hfree⟩ := h
    have hfl := hfree lp (List.mem_cons_self ..)
    have ho : o = .go b := by
     rw [List.drop_of_length_le (by simp)] at hr
     injection hr with hr; exact hr.symm
    obtain ⟨ob, hob⟩ : ∃ ob, (Instr.endLoop lp).run P W2 = .ok none (W2.putObj lp ob) := ⟨_, by have := run_endLoop (P := P) hl (by rw [hrec]; simp); rw [show (rec .ready none).pending = none from by rw [hrec]] at this; exact this⟩
    obtain ⟨fx', hx', hM⟩ := behind (Hst b) E _ (mm.turn ob hw1 hfl.1 hfl.2) (fun d hd => (World.putObj_heap_other (hms d hd).2.1).trans (hmk d hd)) hfree
    refine ⟨none, _, hob, ?_⟩
    exact ⟨_, fx', by rw [ho]; exact ⟨rfl, Sub.refl _⟩, hx', hM⟩
   ·rw [hJx] at h
    obtain ⟨e, jc, h', E, r', hj, ho, hQ, mm, hl, hmk, hfree⟩ := h
    have hfl := hfree lp (List.mem_cons_self ..)
    obtain ⟨ob, hob⟩ : ∃ ob, (Instr.endLoop lp).run P W2 = .ok (some jc) (W2.putObj lp ob) := ⟨_, by have := run_endLoop (P := P) hl (by rw [hrec]; simp); rw [show (rec .done (some jc)).pending = some jc from by rw [hrec]] at this; exact this⟩
    obtain ⟨fx', hx', hM⟩ := behind h' E _ (mm.turn ob hw1 hfl.1 hfl.2) (fun d hd => (World.putObj_heap_other (hms d hd).2.1).trans (hmk d hd)) hfree
    refine ⟨some jc, _, hob, ?_⟩
    have hend : ∀ hne : e ≠ .normal, Aft fx (PostJ (fun b => mk nt rts l (Hst b)) r Q o) e { a with defers := ms.map coll ++ a.defers } (W2.putObj lp ob) := fun hne => ⟨_, fx', by rw [ho]; exact ⟨hne, hQ⟩, hx', hM⟩
    cases e with
    | ret => injection hj with hj; subst hj; exact wpIn_ret (hend (by simp))
    | exit id => injection hj with hj; subst hj; exact wpIn_exit (hend (by simp))
    | goto t => injection hj with hj; subst hj; exact wpIn_goto (hend (by simp))
    | normal => cases hj
    | panic ch => cases hj
    | outgrown => cases hj
end
end Go.Ab
end
section
namespace Go.Ab
open Go.RowKit

theorem flat_map {α : Type} {c : α → List D} (h : ∀ a, ∀ x ∈ c a, x.flat = true) (xs : List α) : ∀ e ∈ xs.map c, ∀ x ∈ e, x.flat = true := fun e he x hx => by
 obtain ⟨a, _, rfl⟩ := List.mem_map.1 he
 exact h a x hx

/-- a call that looks at own blocks and hands back a row of literals of its own -/
theorem Chain.callOF {P : Program} {ops : Array Oper} {o : Oper} {l : List Oper} {S : St} {Q' : St → Prop} {c : Call} {d : Nat} {f : FuncId} {caps args : List V} {v : V} {T n : Nat} {es : List (List D)} (hF : FunO P f args v (.arr T n es)) (hw : wantedV ops S o = some true) (ho : o.op = .call c) (hd : o.dst = some d)
  (hcal : calleeV S c = some (f, caps)) (hargs : mapO (viewV S.hp) (c.args.toList.map S.ev ++ caps) = some args) (hent : Rp.Enters P f) (hid : S.rts.contains d = false)
  (hv : ∀ r : V, r.ren 0 = v → r.flat = true) (hes : ∀ e ∈ es, ∀ x ∈ e, x.flat = true)
  (hrest : Chain false P ops l (((S.kill d).setH d (some (.arr T n es))).put (some d) (v.ren d)) Q') : Chain false P ops (o :: l) S Q' := by
 refine Chain.call hw ho hd hcal hargs hent hF hid (.inr fun r k hq => ⟨hv r hq.1, fun blk hb => ?_⟩) fun r k hq => ?_
 ·rw [hq.2] at hb
  injection hb with hb
  subst hb
  exact hes
 ·obtain ⟨h1, rfl⟩ := hq
  unfold St.got
  rw [← ren_ren (d := d) (e := 0) r, h1]
  exact hrest
theorem flat_of_ren {i a n : Nat} : ∀ (r : V), r.ren 0 = .ref i a n → r.flat = true
 | .ref .., _ => rfl
 | .d _, h => by cases h
 | .dx _, h => by cases h
 | .ptr .., h => by cases h
 | .mref _, h => by cases h
 | .agg _, h => by cases h
 | .tup _, h => by cases h
 | .fn .., h => by cases h
 | .hole, _ => rfl
 | .junk, _ => rfl

def posN (n : Nat) : Option Unit := if 0 < n then some () else none
end Go.Ab
end
section
namespace Go.Ab
open Go.RowKit Go.Sort

theorem heap_putRow {α : Type} [Inhabited α] (enc : α → Value) (w : World) (blk off : Nat) (d : Array α) (k : Nat) :
  (putRow enc w blk off d).heap[k]? = if k = blk then (w.heap[k]?).map (onCells (putCells enc off d)) else w.heap[k]? := by
 unfold putRow mapBlock
 simp only [Array.getElem?_modify]
 by_cases h : k = blk
 ·subst h; simp
 ·rw [if_neg h, if_neg (Ne.symm h)]

/-- a row after a call that has turned its elements alone -/
theorem Post.row {w w' : World} {E : Env} {T n : Nat} {es es' : List (List D)} {c c' : Array Value} {flat' : List Value} (g : GO E (hlook [(1000, some (.arr T n es))]) w) (ok : E.ok (hlook [(1000, some (.arr T n es))]) w) (hn : (E.loc 1000).nil = false) (hc : w.heap[(E.loc 1000).b]? = some (.cells c T (0, 0)))
  (hos : w'.os = w.os) (htp : w'.tape = w.tape) (hout : w'.output = w.output) (hsz : w.heap.size ≤ w'.heap.size)
  (hb : ∀ k, k < w.heap.size → k ≠ (E.loc 1000).b → w'.heap[k]? = w.heap[k]?) (hc' : w'.heap[(E.loc 1000).b]? = some (.cells c' T (0, 0))) (hcs : c'.size = c.size)
  (hlen : es'.length = es.length) (hel : ∀ e ∈ es', e.length = n) (hR : RDe w E.Z es' flat') (ht : c'.toList.take (es'.length * n) = flat') :
  Post (fxOf w E (hlook [(1000, some (.arr T n es))]) [1000] g) E (hlook [(1000, some (.arr T n es'))]) w' := by
 have hk : Keeps E.Z w w' := fun b hz => hb b (ok.zlt b hz) (fun e => ok.apart1 1000 (by simp [hlook]) hn (e ▸ hz))
 have one : ∀ i, hlook [(1000, some (Blk.arr T n es'))] i ≠ none → i = 1000 := fun i hi => by
  by_cases h : i = 1000
  ·exact h
  ·simp [hlook, h] at hi
 obtain ⟨h1, h2, h3, h4, h5⟩ := ok.hold 1000 _ rfl
 rcases h5 with ⟨h6, _⟩ | ⟨_, c0, flat, h7, h8, h9, h10, h11, h12⟩
 ·rw [hn] at h6; cases h6
 rw [hc] at h7
 injection h7 with h7
 injection h7 with h7
 subst h7
 refine ⟨⟨?_, ?_, ?_, ?_, ?_⟩, ⟨hos, htp, hout, hsz, fun b hbl hL => hb b hbl (fun e => hL ⟨1000, by simp [hlook], .inl ⟨hn, e.symm⟩⟩)⟩, fun i hi b hni => .inr ?_, fun b hz => .inl hz, ?_⟩
 ·intro i k hi
  obtain rfl := one i (by rw [hi]; simp)
  simp only [hlook, if_true, Option.some.injEq] at hi
  subst hi
  exact ⟨h1, h2, hel, h4, .inr ⟨hn, c', flat', hc', by omega, h9, hcs.trans h10, RDe.keep hk (fun _ h => h) _ _ hR, ht⟩⟩
 ·intro i j hi hj hij
  exact absurd ((one i hi).trans (one j hj).symm) hij
 ·intro i hi b hni
  obtain rfl := one i hi
  exact ok.apart 1000 (by simp [hlook]) b hni
 ·intro b hz
  exact Nat.lt_of_lt_of_le (ok.zlt b hz) hsz
 ·intro i hi b hb
  obtain rfl := one i hi
  exact Nat.lt_of_lt_of_le (ok.xlt 1000 (by simp [hlook]) b hb) hsz
 ·obtain rfl := one i hi
  exact ⟨1000, by simp [hlook], hni⟩
 ·intro r hr
  simp only [fxOf, List.map_cons, List.map_nil, List.mem_singleton] at hr
  subst hr
  rfl

/-- nothing has turned -/
theorem Post.same {w : World} {E : Env} {b : Blk} (g : GO E (hlook [(1000, some b)]) w) (ok : E.ok (hlook [(1000, some b)]) w) : Post (fxOf w E (hlook [(1000, some b)]) [1000] g) E (hlook [(1000, some b)]) w := by
 have one : ∀ i, hlook [(1000, some b)] i ≠ none → i = 1000 := fun i hi => by
  by_cases h : i = 1000
  ·exact h
  ·simp [hlook, h] at hi
 refine ⟨ok, ⟨rfl, rfl, rfl, Nat.le_refl _, fun _ _ _ => rfl⟩, fun i hi b hni => .inr ⟨i, hi, hni⟩, fun b hz => .inl hz, ?_⟩
 intro r hr
 simp only [fxOf, List.map_cons, List.map_nil, List.mem_singleton] at hr
 subst hr
 rfl

theorem RDe_lits1 {w : World} {Z : Nat → Prop} {α : Type} (v : α → Value) (hp : ∀ x, plain (v x) = true) : ∀ (xs : List α) (flat : List Value), RDe w Z (xs.map fun x => [.lit (v x)]) flat ↔ flat = xs.map v
 | [], flat => by simp [RDe]
 | x :: xs, flat => by
  simp only [List.map_cons, RDe]
  constructor
  ·rintro ⟨a, r, rfl, ⟨y, z, rfl, ⟨rfl, _⟩, rfl⟩, h⟩
   rw [(RDe_lits1 v hp xs r).1 h]; rfl
  ·rintro rfl
   exact ⟨[v x], xs.map v, rfl, ⟨v x, [], rfl, ⟨rfl, hp x⟩, rfl⟩, (RDe_lits1 v hp xs _).2 rfl⟩

/-- a sort of a row of literals of one cell -/
theorem sort1_funM {P : Program} {f : FuncId} {T : TypeId} {α : Type} [Inhabited α] (v : α → Value) (hp : ∀ x, plain (v x) = true) (sorted : List α → List α) (hperm : ∀ xs, (sorted xs).length = xs.length)
  (hnone : ∀ (p : Option Addr) (cap : Nat) (w : World), Calls P f #[.slice p 0 cap] w fun e w' => e = .returned (.tuple #[]) ∧ w' = w) (hnil : sorted [] = [])
  (hsort : ∀ (blk off cap : Nat) (zs : List α) (w : World), Holds v w blk off zs.toArray → blk < w.heap.size → zs.length < 4611686018427387904 → Calls P f #[.slice (some ⟨blk, off, none⟩) zs.length cap] w fun e w' =>
   e = .returned (.tuple #[]) ∧ ∃ n os, w' = grow (putRow v (Sort.ahead w n) blk off (sorted zs).toArray) os)
  (xs r : List α) (h : (if xs.length < 4611686018427387904 then some (sorted xs) else none) = some r) :
  FunM P f [.ref 1000 0 xs.length] [(1000, some (.arr T 1 (xs.map fun x => [.lit (v x)])))] [1000] (.tup []) [(1000, .arr T 1 (r.map fun x => [.lit (v x)]))] := by
 split at h
 case isFalse => cases h
 rename_i hsz
 injection h with h
 subst h
 intro w E vals g ok hv
 obtain ⟨x, r, rfl, hx, rfl⟩ := hv
 by_cases hxs : xs = []
 ·subst hxs
  have : ∃ p cap, x = .slice p 0 cap := by
   rcases hx with ⟨_, _, _, rfl⟩ | ⟨_, _, a, rfl, _⟩
   ·exact ⟨_, _, rfl⟩
   ·exact ⟨_, _, rfl⟩
  obtain ⟨p, cap, rfl⟩ := this
  refine (hnone p cap w).mono ?_
  rintro e w' ⟨rfl, rfl⟩
  rw [hnil]
  exact ⟨_, E, .tup [], _, rfl, ⟨rfl, by simp [hlook]⟩, ⟨[], rfl, rfl⟩, Post.same g ok⟩
 ·have hpos : 0 < xs.length := List.length_pos_iff.2 hxs
  rcases hx with ⟨_, _, h0, _⟩ | ⟨hn, hcap, a, rfl, ha⟩
  ·omega
  ·have ha := ha (.inl rfl)
   obtain ⟨h1, h2, h3, h4, h5⟩ := ok.hold 1000 _ rfl
   rcases h5 with ⟨_, h6⟩ | ⟨_, c, flat, h7, h8, h9, h10, h11, h12⟩
   ·simp at h6; exact absurd h6 hxs
   ·rw [Nat.zero_mul, h2] at ha
    subst ha
    have hlt : (E.loc 1000).b < w.heap.size := (Array.getElem?_eq_some_iff.1 h7).1
    have e11 := (RDe_lits1 v hp xs flat).1 h11
    simp only [List.length_map, Nat.mul_one] at h12 h8
    rw [e11] at h12
    have hget : ∀ j (hj : j < xs.length), c[j]? = some (v xs[j]) := fun j hj => by
     have : (c.toList.take xs.length)[j]? = (xs.map v)[j]? := by rw [h12]
     rw [List.getElem?_take_of_lt hj] at this
     simpa [hj] using this
    have hH : Holds v w (E.loc 1000).b 0 xs.toArray := fun j hj => by
     have hj' : j < xs.length := by simpa using hj
     have := hget j hj'
     refine ⟨?_, ?_⟩
     ·simp only [World.cell?, h7, Nat.zero_add]
      simp [this, hj']
     ·simp only [World.frozen?, h7]
      simp
    refine (hsort (E.loc 1000).b 0 ((E.loc 1000).cap - 0) xs w hH hlt hsz).mono ?_
    rintro e w' ⟨rfl, n, os, rfl⟩
    have hcs : c.size = (E.loc 1000).cap := by rw [h10, Nat.mul_one]
    have hb : ∀ k, k < w.heap.size → (grow (putRow v (Sort.ahead w n) (E.loc 1000).b 0 (sorted xs).toArray) os).heap[k]? = if k = (E.loc 1000).b then (w.heap[k]?).map (onCells (putCells v 0 (sorted xs).toArray)) else w.heap[k]? := fun k hk => by
     rw [heap_grow_old _ _ (by simpa using hk), heap_putRow]
     rfl
    refine ⟨_, E, .tup [], _, rfl, ⟨rfl, ?_⟩, ⟨[], rfl, rfl⟩, Post.row (c := c) (c' := putCells v 0 (sorted xs).toArray c) (es' := (sorted xs).map fun x => [.lit (v x)]) g ok hn h7 rfl rfl rfl (by rw [size_grow]; simp) ?_ ?_ ?_ ?_ ?_ ((RDe_lits1 v hp (sorted xs) _).2 rfl) ?_⟩
    ·simp [hlook]
    ·intro k hk hne
     rw [hb k hk, if_neg hne]
    ·rw [hb _ hlt, if_pos rfl, h7]
     rfl
    ·simp [putCells]
    ·simp [hperm]
    ·simp
    ·apply List.ext_getElem?
     intro j
     have hle : xs.length ≤ c.size := by omega
     simp only [List.length_map, Nat.mul_one, hperm]
     by_cases hj : j < xs.length
     ·rw [List.getElem?_take_of_lt hj]
      have hjc : j < c.size := by omega
      have hjs : j < (sorted xs).length := by rw [hperm]; exact hj
      simp [putCells, hjc, hj, hperm]
     ·rw [List.getElem?_eq_none (by simp; omega), List.getElem?_eq_none (by simp [hperm]; omega)]

theorem sortInt_funM {P : Program} {ρ : Go.Shelf.Ren} {T : TypeId} (L : Go.Proofs.Lays.n189 P ρ) (xs r : List Int) (h : (if xs.length < 4611686018427387904 then some (xs.mergeSort fun x y => decide (x ≤ y)) else none) = some r) :
  FunM P (ρ.f 189) [.ref 1000 0 xs.length] [(1000, some (.arr T 1 (xs.map (cI .i64))))] [1000] (.tup []) [(1000, .arr T 1 (r.map (cI .i64)))] :=
 sort1_funM (Value.int .i64) (fun _ => rfl) (fun xs => xs.mergeSort fun x y => decide (x ≤ y)) (fun xs => by simp) (fun p cap w => Go.Proofs.Any.slices_Sort_int_none L p cap w) (by simp)
  (fun blk off cap zs w h1 h2 h3 => Go.Proofs.Any.slices_Sort_int L blk off cap zs w h1 h2 h3) xs r h
end Go.Ab
end
section
namespace Go.Ab
open Go.RowKit Go.Sort

/-- a comparison that the library's sort may call -/
def CmpW {α : Type} (P : Program) (g : Nat) (c : α → List D) (p : α → α → Option Int) : Prop :=
 ∀ x y r, p x y = some r → ∀ (W : World) (Z : Nat → Prop) (vx vy : List Value), RDs W Z (c x) vx → RDs W Z (c y) vy →
  Calls P g #[.agg vx.toArray, .agg vy.toArray] W fun e w' => e = .returned (.int .i64 r) ∧ ∃ q os', w' = grow (W.drewN q) os'

/-- what slices.SortFunc leaves -/
def sortO {α : Type} (p : α → α → Option Int) : List α → Option (List α)
 | [] => some []
 | x :: t =>
  let g : _root_.Fin (t.length + 1) → α := fun i => (x :: t).get i
  let cf : _root_.Fin (t.length + 1) → _root_.Fin (t.length + 1) → Int := fun i j => (p (g i) (g j)).getD 0
  if (∀ i j, (p (g i) (g j)).isSome = true) ∧ (∀ i, ¬ cf i i < 0) ∧ (∀ i j l, cf i j < 0 → cf j l < 0 → cf i l < 0) ∧ (∀ i j l, ¬ cf i j < 0 → ¬ cf j l < 0 → ¬ cf i l < 0) ∧ t.length + 1 < 4611686018427387904 then
   some ((pdq (Go.Proofs.ltOf cf) (Array.ofFn (n := t.length + 1) id) 0 (t.length + 1) (Lib.bitLen (t.length + 1)) true true).toList.map g)
  else none

end Go.Ab
end
section
namespace Go.Ab
open Go.RowKit

/-- nil slices among a row's elements seen as empty ones -/
theorem RDs.wk {w : World} {Z : Nat → Prop} : ∀ {ds : List D} {vs : List Value}, RDs w Z ds vs → RDs w Z (ds.map D.wk) vs
 | [], _, h => h
 | _ :: _, _, ⟨v, r, h1, h2, h3⟩ => ⟨v, r, h1, RD.wk h2, RDs.wk h3⟩
theorem RDe.wk {w : World} {Z : Nat → Prop} : ∀ {es : List (List D)} {vs : List Value}, RDe w Z es vs → RDe w Z (es.map fun e => e.map D.wk) vs
 | [], _, h => h
 | _ :: _, _, ⟨a, r, h1, h2, h3⟩ => ⟨a, r, h1, RDs.wk h2, RDe.wk h3⟩
theorem Sub.wkRow {S : St} (id : Nat) {T n : Nat} {es : List (List D)} (hH : S.hp id = some (.arr T n es)) : Sub S (S.setH id (some (.arr T n (es.map fun e => e.map D.wk)))) := .of fun fx a w E md => by
 obtain ⟨g1, g2, g3, g4, g5⟩ := md.ok.hold _ _ hH
 have g3' : ∀ e ∈ es.map (fun e => e.map D.wk), e.length = n := fun e he => by
  obtain ⟨e', he', rfl⟩ := List.mem_map.1 he
  rw [List.length_map]; exact g3 e' he'
 rcases g5 with ⟨g6, rfl⟩ | ⟨hn, c, flat, k1, k2, k3, k4, k5, k6⟩
 ·have : S.setH id (some (.arr T n (([] : List (List D)).map fun e => e.map D.wk))) = S := by
   unfold St.setH
   congr 1
   funext i
   by_cases hi : i = id
   ·subst hi; rw [if_pos rfl, hH]; rfl
   ·rw [if_neg hi]
  rw [this]
  exact ⟨E, md⟩
 ·exact ⟨E, md.wr hH hn ⟨rfl, rfl, rfl, Nat.le_refl _, fun _ _ _ => rfl⟩ ⟨g1, g2, g3', g4, .inr ⟨hn, c, flat, k1, by rw [List.length_map]; exact k2, k3, k4, RDe.wk k5, by rw [List.length_map]; exact k6⟩⟩⟩

/-! ### loops whose state hides how a row lies (g) -/
section
variable {P : Program} {S : St} {σ β ρ γ : Type}
def PostIG (I : γ → σ → St) (r : ρ) (Q : Exit → St → Prop) : σ ⊕ ρ → Exit → St → Prop
 | .inl s, e, S => e = .normal ∧ ∃ g, Sub S (I g s)
 | .inr r', e, S => e ≠ .normal ∧ (r' = r → Q e S)
def PostNG (J : γ → β → St) : β → Exit → St → Prop := fun b e S => e = .normal ∧ ∃ g, Sub S (J g b)
theorem PostIG.next {I : γ → σ → St} {r : ρ} {Q : Exit → St → Prop} {s : σ} (g : γ) (h : Sub S (I g s)) : PostIG I r Q (.inl s) .normal S := ⟨rfl, g, h⟩
theorem PostIG.out {I : γ → σ → St} {r r' : ρ} {Q : Exit → St → Prop} {e : Exit} (he : e ≠ .normal) (h : r' = r → Q e S) : PostIG I r Q (.inr r') e S := ⟨he, h⟩
theorem PostNG.next {J : γ → β → St} {b : β} (g : γ) (h : Sub S (J g b)) : PostNG J b .normal S := ⟨rfl, g, h⟩
end
end Go.Ab
end
section
namespace Go.Ab
open Go.RowKit

section
variable {P : Program} {ops : Array Oper} {md : Region.Mode} {C : World → Prop}
/-- whatever order the first n operations come up in -/
def headQ (P : Program) (md : Region.Mode) (ops : Array Oper) (C : World → Prop) (n : Nat) (L : Array Bool → Act → Prop) : Nat → Array Bool → Act → Prop
 | 0, done, a => L done a
 | f + 1, done, a => Region.ready md ops done ≠ [] ∧ ∀ i ∈ Region.ready md ops done, i < n ∧ qOp P ops C i (headQ P md ops C n L f (done.setIfInBounds i true)) a

end

theorem FunM.argsF {P : Program} {f : FuncId} {args args' : List V} {h0 : List (Nat × Option Blk)} {rts : List Nat} {v : V} {h1 : List (Nat × Blk)} (h : FunM P f args' h0 rts v h1) (ha : args' = args.map V.wf) : FunM P f args h0 rts v h1 :=
 fun w E vals g ok hx => h w E vals g ok (by subst ha; exact RVs.frz (fun _ _ h => RV.wf h) hx)
end Go.Ab
end
section
namespace Go.Ab
open Go.RowKit Go.Sort

/-- an error: only whether it is one -/
def cE (b : Bool) : List D := [.er b]
attribute [simp] cE

end Go.Ab
end
section
namespace Go.Ab
open Go.RowKit Go.MapKept

theorem REs_len {E : Env} {w : World} : ∀ {l : List (MKey × V)} {es : List MapEntry}, REs E w l es → es.length = l.length
 | [], _, h => by
  have : _ = [] := h
  simp [this]
 | (_, _) :: _, _, ⟨_, _, h, _, _, _, h2⟩ => by rw [h, List.length_cons, List.length_cons, REs_len h2]

/-- len of an own map -/
theorem pure_lenM {P : Program} {S : St} {c : Call} {x : Operand} {T k e : TypeId} {ti : TI} {id : Nat} {kd : TypeDesc} {l : List (MKey × V)} (hcal : c.callee = .builtin .len) (ha : c.args = #[x]) (hty : c.argTypes = #[T])
  (hT : tyOf P T = some ti) (hd : ti.desc = .map k e) (hx : S.ev x = .mref id) (hH : S.hp id = some (.mp kd l)) : Pure P (.call c) S (.d (.lit (.int .i64 (l.length : Int)))) := by
 intro E w ρ oo hoo ok hev
 unfold execOp
 rw [hoo]
 have h1 := hev x
 rw [hx] at h1
 have h1 : ρ x = .map (some (E.loc id).b) := h1
 obtain ⟨hn, _, es, clock, hb, _, hr⟩ := ok.hold _ _ hH
 have hl : es.size = l.length := by rw [← REs_len hr, Array.length_toList]
 refine ⟨_, ⟨rfl, rfl⟩, fun w' hg => ?_⟩
 have u1 := run_und hT w'
 rw [hd] at u1
 have hb' : w'.heap[(E.loc id).b]? = some (.map es clock) := (hg.block _ (Array.getElem?_eq_some_iff.1 hb).1).trans hb
 simp [resolve, hcal, ha, hty, invoke, builtin, Builtin.len_, u1, h1, goInt, MapKept.run_getObj_map hb', hl]

@[simp] theorem encM_length {κ α : Type} (kf : κ → MKey) (vf : α → V) (m : List (κ × α)) : (encM kf vf m).length = m.length := by simp [encM]
@[simp] theorem encM_fst {κ α : Type} (kf : κ → MKey) (vf : α → V) (m : List (κ × α)) : (encM kf vf m).map (·.1) = m.map (kf ∘ Prod.fst) := by simp [encM]
@[simp] theorem entsD_vI {κ : Type} (k : IntKind) (kf : κ → MKey) : ∀ (m : List (κ × Int)), entsD (encM kf (vI k) m) = some (m.map (cI k ∘ Prod.snd))
 | [] => rfl
 | (a, n) :: m => by
  show (entsD (encM kf (vI k) m)).map _ = _
  rw [entsD_vI k kf m]; rfl
@[simp] theorem entsD_vB {κ : Type} (kf : κ → MKey) : ∀ (m : List (κ × Bool)), entsD (encM kf vB m) = some (m.map (cB ∘ Prod.snd))
 | [] => rfl
 | (a, n) :: m => by
  show (entsD (encM kf vB m)).map _ = _
  rw [entsD_vB kf m]; rfl
@[simp] theorem entsD_vS {κ : Type} (kf : κ → MKey) : ∀ (m : List (κ × ByteArray)), entsD (encM kf vS m) = some (m.map (cS ∘ Prod.snd))
 | [] => rfl
 | (a, n) :: m => by
  show (entsD (encM kf vS m)).map _ = _
  rw [entsD_vS kf m]; rfl

/-! ### delete -/
theorem menc_inj : ∀ {a b : MKey}, a.enc = b.enc → a = b
 | .ik _, .ik _, h => by injection h with _ h; rw [h]
 | .sk _, .sk _, h => by injection h with h; rw [h]
 | .bk _, .bk _, h => by injection h with h; rw [h]
theorem REs_keep {E : Env} {w : World} {k : MKey} : ∀ {l : List (MKey × V)} {es : List MapEntry}, REs E w l es → (∀ x ∈ es, x.key ≠ k.enc) → kdel l k = l
 | [], _, _, _ => rfl
 | (q, v) :: l, es, ⟨e, r, h, h1, _, _, h2⟩, hn => by
  subst h
  have hq : ¬ q = k := fun e2 => hn e (.head _) (by rw [h1, e2])
  unfold kdel
  rw [List.filter_cons_of_pos (by simpa using hq)]
  congr 1
  exact REs_keep h2 fun x hx => hn x (.tail _ hx)
theorem REs_erase {E : Env} {w : World} {k : MKey} : ∀ {l : List (MKey × V)} {es : List MapEntry} {j : Nat} {e : MapEntry}, REs E w l es → (es.map (·.key)).Nodup → es[j]? = some e → e.key = k.enc → REs E w (kdel l k) (es.eraseIdx j)
 | [], es, j, e, h, _, hj, _ => by
  have h : es = [] := h
  subst h
  simp at hj
 | (q, v) :: l, es, j, e, ⟨e0, r, h, h1, h2, h3, h4⟩, hnd, hj, hk => by
  subst h
  rw [List.map_cons, List.nodup_cons] at hnd
  cases j with
  | zero =>
   simp only [List.getElem?_cons_zero, Option.some.injEq] at hj
   subst hj
   have hq : q = k := menc_inj (h1.symm.trans hk)
   have hn : ∀ x ∈ r, x.key ≠ k.enc := fun x hx e2 => hnd.1 (List.mem_map.2 ⟨x, hx, e2.trans hk.symm⟩)
   have := REs_keep h4 hn
   unfold kdel at this ⊢
   rw [List.filter_cons_of_neg (by simpa using hq), this]
   exact h4
  | succ j =>
   simp only [List.getElem?_cons_succ] at hj
   have hq : ¬ q = k := fun e2 => hnd.1 (List.mem_map.2 ⟨e, List.mem_of_getElem? hj, by rw [hk, h1, e2]⟩)
   have := REs_erase h4 hnd.2 hj hk
   unfold kdel at this ⊢
   rw [List.filter_cons_of_pos (by simpa using hq), List.eraseIdx_cons_succ]
   exact ⟨e0, _, rfl, h1, h2, h3, this⟩
/-- A DELETION from an own map -/
theorem Chain.mdel {P : Program} {ops : Array Oper} {o : Oper} {l : List Oper} {S : St} {Q : St → Prop} {c : Call} {T T2 : TypeId} {m i : Operand} {id : Nat} {kd : TypeDesc} {es : List (MKey × V)} {k : MKey} {kt et : TypeId} {ti tk : TI} (hw : wantedV ops S o = some true) (ho : o.op = .call c)
  (hcal : c.callee = .builtin .delete) (ha : c.args = #[m, i]) (hty : c.argTypes = #[T, T2])
  (hT : tyOf P T = some ti) (hd : ti.desc = .map kt et) (hkt : tyOf P kt = some tk) (hkd : tk.desc = kd) (hm : S.ev m = .mref id) (hH : S.hp id = some (.mp kd es)) (hk : keyV (S.ev i) = some k) (hkk : k.desc = kd)
  (h : Chain false P ops l ((S.setH id (some (.mp kd (kdel es k)))).put o.dst (.tup [])) Q) : Chain false P ops (o :: l) S Q := by
 intro fx a w Q' ⟨E, md⟩ hq
 unfold wpList
 rw [if_pos (wantedV_sound md hw)]
 refine .inl ?_
 have hmv := md.ev m
 rw [hm] at hmv
 have hmv : a.eval m = .map (some (E.loc id).b) := hmv
 have hiv := keyV_sound (md.ev i) hk
 obtain ⟨hn, hkeys, mes, clock, hb, hst, hre⟩ := md.ok.hold _ _ hH
 have hu : P.underlying T = some (.map kt et) := by rw [(tyOf_spec hT).1, hd]
 have huk : P.underlying kt = some k.desc := by rw [(tyOf_spec hkt).1, hkd, hkk]
 have hkeys' : ∀ p ∈ kdel es k, p.1.desc = kd := fun p hp => hkeys p ((List.mem_filter.1 hp).1)
 have fin : ∀ mes' clock', (Builtin.delete_ #[T, T2] o.type #[a.eval m, a.eval i]).run P w = .ok (.tuple #[]) { w with heap := w.heap.setIfInBounds (E.loc id).b (.map mes' clock') } → Stamped mes' clock' → REs E w (kdel es k) mes'.toList → o.wp P a w (wpList P ops Q' l) Q' := by
  intro mes' clock' hrun hst' hre'
  have hg := grownBy_set w (E.loc id).b (.map mes' clock')
  have hkp : Keeps E.Z w { w with heap := w.heap.setIfInBounds (E.loc id).b (.map mes' clock') } := Keeps.grown md.ok hg fun b hb => by injection hb with hb; rw [← hb]; exact md.ok.apart1 id (by rw [hH]; simp) hn
  have m' := md.wr hH hn hg (blk := .mp kd (kdel es k)) ⟨hn, hkeys', mes', clock', (heap_set hb).1, hst', REs.keep hkp (fun _ h => h) rfl _ _ hre'⟩
  unfold Oper.wp execOp
  simp only [ho, resolve, hcal, ha, hty, invoke, builtin, Sem.run_bind, Sem.run_pure, Result.andThen_ok, List.map_toArray, List.map_cons, List.map_nil, hrun, Oper.upon]
  exact h fx _ _ Q' ⟨E, m'.put o.dst ⟨[], rfl, rfl⟩⟩ hq
 rcases REs_find (k := k) hkk 0 hre hkeys with ⟨g1, g2, g3⟩ | ⟨j, e, u, g1, g2, g3, g4, g5, g6, q, g7, g8⟩
 ·refine fin mes clock ?_ hst ?_
  ·rw [← hkk] at g1
   rw [hmv, hiv]
   simp [Builtin.delete_, run_underlying hu, MapKept.run_getObj_map hb, MapKept.run_checkKey huk k.isKey, run_findKey huk g1, MapKept.run_setObj_map _ hb]
  ·rw [REs_keep hre g3]; exact hre
 ·rw [Nat.zero_add] at g1
  have hej : mes[j]? = some e := by simpa using g2
  have hjl : j < mes.size := (Array.getElem?_eq_some_iff.1 hej).1
  refine fin (mes.eraseIdxIfInBounds j) clock ?_ (stamped_erase hst j) ?_
  ·rw [← hkk] at g1
   rw [hmv, hiv]
   simp [Builtin.delete_, run_underlying hu, MapKept.run_getObj_map hb, MapKept.run_checkKey huk k.isKey, run_findKey huk g1, MapKept.run_setObj_map _ hb]
  ·have he : (mes.eraseIdxIfInBounds j).toList = mes.toList.eraseIdx j := by
    unfold Array.eraseIdxIfInBounds
    rw [dif_pos hjl]
    simp
   rw [he]
   exact REs_erase hre hst.2.2 g2 g3
end Go.Ab
end
section
namespace Go.Ab
open Go.RowKit Go.MapKept

/-- f hands back a map of its own -/
def FunOM (P : Program) (f : FuncId) (args : List V) (kd : TypeDesc) (l : List (MKey × V)) : Prop := Fun P f args (fun r k => r = .mref 0 ∧ k = some (.mp kd l))

/-- f, and g on what f hands back -/
def FunC2 (P : Program) (f g : FuncId) (args : List V) (v : V) : Prop := v.closed = true ∧
 ∀ (w : World) (Z : Nat → Prop) (vals : List Value), GW w → (∀ b, Z b → b < w.heap.size) → RVs (oneE default Z) w args vals → Calls P f vals.toArray w fun e w1 => ∃ v1, e = .returned v1 ∧
  Calls P g #[v1] w1 fun e w' => ∃ x Z', e = .returned x ∧ RV (oneE default Z') w' v x ∧ (∀ b, Z' b → (Z b ∨ w.heap.size ≤ b) ∧ b < w'.heap.size) ∧ Grow w w'

end Go.Ab
end
section
namespace Go.Ab
open Go.RowKit

def Env.xat (E : Env) (id : Nat) (X : Nat → Prop) : Env := E.at id { E.loc id with xs := X }
def Loc.like (ℓ ℓ' : Loc) : Prop := ℓ'.b = ℓ.b ∧ ℓ'.o = ℓ.o ∧ ℓ'.n = ℓ.n ∧ ℓ'.cap = ℓ.cap ∧ ℓ'.nil = ℓ.nil
theorem xat_like (E : Env) (id : Nat) (X : Nat → Prop) (i : Nat) : (E.loc i).like ((E.xat id X).loc i) := by
 unfold Env.xat Env.at Loc.like
 by_cases h : i = id
 ·subst h; simp
 ·simp [h]
theorem xat_other (E : Env) {id i : Nat} (X : Nat → Prop) (h : i ≠ id) : (E.xat id X).loc i = E.loc i := by simp [Env.xat, Env.at, h]
theorem xat_here (E : Env) (id : Nat) (X : Nat → Prop) : (E.xat id X).loc id = { E.loc id with xs := X } := by simp [Env.xat, Env.at]

mutual
theorem RV.like {E E' : Env} {w : World} (hz : ∀ b, E.Z b → E'.Z b) (hl : ∀ i, (E.loc i).like (E'.loc i)) : ∀ (c : V) (x : Value), RV E w c x → RV E' w c x
 | .d x, v, h => RD.keep (fun _ _ => rfl) hz x v h
 | .ref i off len, v, h => by
  obtain ⟨e1, e2, e3, e4, e5⟩ := hl i
  unfold RV at h ⊢
  rw [e1, e2, e3, e4, e5]
  exact h
 | .ptr i k off, v, h => by
  obtain ⟨e1, e2, e3, e4, e5⟩ := hl i
  unfold RV at h ⊢
  rw [e1, e2, e3, e5]
  exact h
 | .mref i, v, h => by
  obtain ⟨e1, _⟩ := hl i
  unfold RV at h ⊢
  rw [e1]
  exact h
 | .agg cs, v, ⟨vs, h1, h2, h3⟩ => ⟨vs, h1, h2, RVs.like hz hl cs vs h3⟩
 | .tup cs, v, ⟨vs, h1, h2⟩ => ⟨vs, h1, RVs.like hz hl cs vs h2⟩
 | .fn f cs, v, ⟨vs, h1, h2⟩ => ⟨vs, h1, RVs.like hz hl cs vs h2⟩
 | .dx es, v, h => ⟨RD.keep (fun _ _ => rfl) hz (.sl es) v h.1, h.2⟩
 | .hole, _, h => h
 | .junk, _, _ => trivial
theorem RVs.like {E E' : Env} {w : World} (hz : ∀ b, E.Z b → E'.Z b) (hl : ∀ i, (E.loc i).like (E'.loc i)) : ∀ (cs : List V) (vs : List Value), RVs E w cs vs → RVs E' w cs vs
 | [], _vs, h => h
 | c :: cs, _vs, ⟨v, r, h1, h2, h3⟩ => ⟨v, r, h1, RV.like hz hl c v h2, RVs.like hz hl cs r h3⟩
end
theorem REs.like {E E' : Env} {w : World} (hz : ∀ b, E.Z b → E'.Z b) (hl : ∀ i, (E.loc i).like (E'.loc i)) : ∀ (l : List (MKey × V)) (es : List MapEntry), REs E w l es → REs E' w l es
 | [], _es, h => h
 | (_k, v) :: l, _es, ⟨e, r, h1, h2, h3, h4, h5⟩ => ⟨e, r, h1, h2, RV.like hz hl v _ h3, h4, REs.like hz hl l r h5⟩
theorem Hold.like {E E' : Env} {w : World} (hz : ∀ b, E.Z b → E'.Z b) (hl : ∀ i, (E.loc i).like (E'.loc i)) {i : Nat} (hx : E'.loc i = E.loc i) {k : Blk} (h : Hold E w i k) : Hold E' w i k := by
 cases k with
 | arr T n es =>
  obtain ⟨h1, h2, h3, h4, h5⟩ := h
  unfold Hold
  rw [hx]
  refine ⟨h1, h2, h3, h4, h5.imp (fun h => h) ?_⟩
  rintro ⟨hn, c, flat, k1, k2, k3, k4, k5, k6⟩
  exact ⟨hn, c, flat, k1, k2, k3, k4, RDe.keep (fun _ _ => rfl) hz _ _ k5, k6⟩
 | nest T n sh es fo =>
  obtain ⟨h1, h2, h3, h4, hs, hfo, h5⟩ := h
  unfold Hold
  rw [hx]
  refine ⟨h1, h2, h3, h4, hs, hfo, h5.imp (fun h => h) ?_⟩
  rintro ⟨hn, c, flat, ls, k1, k2, k3, k4, k5, k6, k7⟩
  exact ⟨hn, c, flat, ls, k1, k2, k3, k4, RNe.to (E := E) (E' := E') hz (fun k cs hk => ⟨cs, hk, rfl, fun h => h, fun vs _ h => RVs.like hz hl cs vs h⟩) (fun k hk => hk) 0 es flat ls k5, k6, k7⟩
 | box cs =>
  obtain ⟨h1, h2, vs, h3, h4⟩ := h
  unfold Hold
  rw [hx]
  exact ⟨h1, h2, vs, RVs.like hz hl cs vs h3, h4⟩
 | mp kd l =>
  obtain ⟨h1, h2, es, clock, h3, h4, h5⟩ := h
  unfold Hold
  rw [hx]
  exact ⟨h1, h2, es, clock, h3, h4, REs.like hz hl l _ h5⟩

theorem setH_get {S : St} {id : Nat} {blk : Option Blk} (h0 : S.hp id ≠ none) {i : Nat} (h : (S.setH id blk).hp i ≠ none) : S.hp i ≠ none := by
 simp only [St.setH] at h
 by_cases hi : i = id
 ·rw [hi]; exact h0
 ·rw [if_neg hi] at h; exact h

/-- the rows within are others, the world stays -/
theorem Mod.xs {fx : Fx} {S : St} {E : Env} {a : Act} {w : World} (m : Mod fx S E a w) {id : Nat} (hid : id ∉ S.rts) (h0 : S.hp id ≠ none) (X : Nat → Prop) {blk : Blk}
  (hX : ∀ b, X b → (E.loc id).xs b ∨ ((fx.w0.heap.size ≤ b ∨ fx.L b) ∧ ¬ E.Z b ∧ b < w.heap.size ∧ ∀ i, i ≠ id → S.hp i ≠ none → ¬ (E.loc i).own b)) (hold : Hold (E.xat id X) w id blk) :
  Mod fx (S.setH id (some blk)) (E.xat id X) a w := by
 have hl := xat_like E id X
 have get : ∀ i, (S.setH id (some blk)).hp i ≠ none → S.hp i ≠ none := fun i h => setH_get h0 h
 have key : ∀ i b, ((E.xat id X).loc i).own b → (E.loc i).own b ∨ (i = id ∧ (fx.w0.heap.size ≤ b ∨ fx.L b) ∧ ¬ E.Z b ∧ b < w.heap.size ∧ ∀ i, i ≠ id → S.hp i ≠ none → ¬ (E.loc i).own b) := fun i b h => by
  by_cases hi : i = id
  ·subst hi
   rw [xat_here] at h
   rcases h with h | h
   ·exact .inl (.inl h)
   ·exact (hX b h).imp .inr fun h => ⟨rfl, h⟩
  ·rw [xat_other E X hi] at h; exact .inl h
 refine ⟨m.nt, fun t => RV.like (E := E) (E' := E.xat id X) (fun _ h => h) hl _ _ (m.slots t), m.dfr, ⟨fun i k h => ?_, fun i j hi hj hij b h1 h2 => ?_, fun i hi b h => ?_, m.ok.zlt, fun i hi b h => ?_⟩, m.frame, fun i hi b h => ?_, m.z, fun r hr => ?_⟩
 ·simp only [St.setH] at h
  by_cases hi : i = id
  ·subst hi
   rw [if_pos rfl] at h
   injection h with h; subst h
   exact hold
  ·rw [if_neg hi] at h
   exact Hold.like (E := E) (E' := E.xat id X) (fun _ h => h) hl (xat_other E X hi) (m.ok.hold i k h)
 ·rcases key i b h1 with g1 | ⟨rfl, _, _, _, g1⟩
  ·rcases key j b h2 with g2 | ⟨rfl, _, _, _, g2⟩
   ·exact m.ok.inj i j (get i hi) (get j hj) hij b g1 g2
   ·exact g2 i hij (get i hi) g1
  ·rcases key j b h2 with g2 | ⟨rfl, _⟩
   ·exact g1 j (fun e => hij e.symm) (get j hj) g2
   ·exact hij rfl
 ·rcases key i b h with g | ⟨_, _, g, _⟩
  ·exact m.ok.apart i (get i hi) b g
  ·exact g
 ·rcases key i b (.inr h) with g | ⟨_, _, _, g, _⟩
  ·exact m.ok.own_lt (get i hi) g
  ·exact g
 ·rcases key i b h with g | ⟨_, g, _⟩
  ·exact m.mine i (get i hi) b g
  ·exact g
 ·obtain ⟨g1, g2⟩ := m.roots r hr
  exact ⟨g1, by rw [xat_other E X (fun e => hid (by rw [← e]; exact g1))]; exact g2⟩

theorem xat_same (E : Env) (id : Nat) : E.xat id (E.loc id).xs = E := by
 show Env.mk _ _ = Env.mk _ _
 congr 1
 funext i
 by_cases h : i = id
 ·subst h; simp
 ·simp [h]
theorem at_same (E : Env) (id : Nat) : E.at id (E.loc id) = E := by
 show Env.mk _ _ = Env.mk _ _
 congr 1
 funext i
 by_cases h : i = id
 ·subst h; simp
 ·simp [h]

/-! ### a plain row as one of rows, and back -/
/-- nothing within yet -/
def isNilD : D → Bool
 | .lit (.slice none 0 0) => true
 | _ => false
theorem isNilD_spec {d : D} (h : isNilD d = true) : d = .lit (.slice none 0 0) := by
 unfold isNilD at h
 split at h
 ·rfl
 ·cases h
def nz : List (Option (TypeId × Nat)) → List D → Option (List D)
 | [], [] => some []
 | none :: sh, d :: ds => (nz sh ds).map (d :: ·)
 | some (_, n) :: sh, d :: ds => if isNilD d = true ∧ 0 < n then (nz sh ds).map (.sl [] :: ·) else none
 | _, _ => none
theorem nz_sound {w : World} {Z : Nat → Prop} : ∀ {sh : List (Option (TypeId × Nat))} {ds ds' : List D} {vs : List Value}, nz sh ds = some ds' → RDs w Z ds vs → ds'.length = ds.length ∧ ∃ ls, RNs w Z sh ds' vs ls ∧ blks ls = [] := by
 intro sh
 induction sh with
 | nil =>
  intro ds ds' vs h hr
  cases ds with
  | nil => injection h with h; subst h; exact ⟨rfl, [], ⟨rfl, hr, rfl⟩, rfl⟩
  | cons d ds => cases h
 | cons x sh ih =>
  intro ds ds' vs h hr
  cases ds with
  | nil => cases x <;> cases h
  | cons d ds =>
   obtain ⟨v, r, rfl, h1, h2⟩ := hr
   cases x with
   | none =>
    simp only [nz] at h
    cases hd : nz sh ds with
    | none => simp [hd] at h
    | some e =>
     simp only [hd, Option.map_some, Option.some.injEq] at h
     subst h
     obtain ⟨g1, ls, g2, g3⟩ := ih hd h2
     exact ⟨by simp [g1], ls, ⟨d, e, v, r, rfl, rfl, h1, g2⟩, g3⟩
   | some p =>
    obtain ⟨T, n⟩ := p
    simp only [nz] at h
    split at h
    ·rename_i hc
     obtain ⟨hd0, hn⟩ := hc
     have hd0 := isNilD_spec hd0
     subst hd0
     cases hd : nz sh ds with
     | none => simp [hd] at h
     | some e =>
      simp only [hd, Option.map_some, Option.some.injEq] at h
      subst h
      obtain ⟨g1, ls, g2, g3⟩ := ih hd h2
      refine ⟨by simp [g1], ⟨0, 0, n, 0, true, fun _ => False⟩ :: ls, ⟨[], e, v, r, _, ls, rfl, rfl, rfl, ⟨.inl ⟨rfl, rfl, rfl, h1.1⟩, rfl, rfl, (fun _ h => by cases h), hn, .inl ⟨rfl, rfl⟩⟩, g2⟩, ?_⟩
      simpa [blks] using g3
    ·cases h
theorem nzE_sound {E : Env} {w : World} {sh : List (Option (TypeId × Nat))} {n : Nat} : ∀ {es es' : List (List D)} {vs : List Value} (k : Nat), mapO (nz sh) es = some es' → RDe w E.Z es vs → (∀ e ∈ es, e.length = n) → (∀ e ∈ es', e.length = n) ∧ es'.length = es.length ∧ ∃ ls, RNe E w sh [] k es' vs ls ∧ blks ls = []
 | [], es', vs, k, h, hr, _ => by
  injection h with h; subst h
  exact ⟨(fun _ h => by cases h), rfl, [], ⟨hr, rfl⟩, rfl⟩
 | e :: es, es', vs, k, h, ⟨a, r, h1, h2, h3⟩, hn => by
  simp only [mapO] at h
  split at h
  ·rename_i y ys hy hys
   injection h with h; subst h
   obtain ⟨g1, la, g2, g3⟩ := nz_sound hy h2
   obtain ⟨k1, k2, lr, k3, k4⟩ := nzE_sound (k + 1) hys h3 (fun e he => hn e (.tail _ he))
   refine ⟨fun x hx => ?_, by simp [k2], la ++ lr, ⟨a, r, la, lr, h1, rfl, g2, k3⟩, by rw [blks_append, g3, k4]; rfl⟩
   rcases List.mem_cons.1 hx with rfl | hx
   ·rw [g1]; exact hn e (.head _)
   ·exact k1 x hx
  ·cases h

theorem Sub.toNest {S : St} (id : Nat) {T n : Nat} {es es' : List (List D)} (sh : List (Option (TypeId × Nat))) (hid : S.rts.contains id = false) (hH : S.hp id = some (.arr T n es)) (hz : mapO (nz sh) es = some es') (hl : sh.length = n) : Sub S (S.setH id (some (.nest T n sh es' []))) := .of fun fx a w E m => by
 have hid' : id ∉ S.rts := by simpa using hid
 refine ⟨_, m.xs hid' (by rw [hH]; simp) (E.loc id).xs (fun b h => .inl h) ?_⟩
 rw [xat_same]
 obtain ⟨h1, h2, h3, h4, h5⟩ := m.ok.hold id _ hH
 rcases h5 with ⟨h6, rfl⟩ | ⟨hn, c, flat, k1, k2, k3, k4, k5, k6⟩
 ·injection hz with hz; subst hz
  exact ⟨h1, h2, (fun _ h => by cases h), h4, hl, (fun _ h => by cases h), .inl ⟨h6, rfl⟩⟩
 ·obtain ⟨g1, g2, ls, g3, g4⟩ := nzE_sound (E := E) 0 hz k5 h3
  refine ⟨h1, h2, g1, h4, hl, (fun _ h => by cases h), .inr ⟨hn, c, flat, ls, k1, by rw [g2]; exact k2, k3, k4, g3, by rw [g2]; exact k6, by rw [g4]; exact List.nodup_nil, fun b hb => ?_⟩⟩
  rw [g4] at hb; cases hb

/-- the rows within stay as they are from now on -/
theorem Sub.nestArr {S : St} (id : Nat) {T n : Nat} {sh : List (Option (TypeId × Nat))} {es : List (List D)} (hid : S.rts.contains id = false) (hH : S.hp id = some (.nest T n sh es [])) : Sub S (S.setH id (some (.arr T n es))) := .of fun fx a w E m => by
 have hid' : id ∉ S.rts := by simpa using hid
 have h0 : S.hp id ≠ none := by rw [hH]; simp
 have hl := xat_like E id (fun _ => False)
 have get : ∀ i, (S.setH id (some (.arr T n es))).hp i ≠ none → S.hp i ≠ none := fun i h => setH_get h0 h
 have key : ∀ i b, ((E.xat id (fun _ => False)).loc i).own b → (E.loc i).own b ∧ (i = id → ¬ (E.loc id).xs b ∨ (E.loc id).b = b) := fun i b h => by
  by_cases hi : i = id
  ·subst hi
   rw [xat_here] at h
   rcases h with h | h
   ·exact ⟨.inl h, fun _ => .inr h.2⟩
   ·exact h.elim
  ·rw [xat_other E _ hi] at h; exact ⟨h, fun e => absurd e hi⟩
 obtain ⟨h1, h2, h3, h4, hs, hfo, h5⟩ := m.ok.hold id _ hH
 -- its own block is none of the rows within that are seen
 refine ⟨⟨(E.xat id fun _ => False).loc, fun b => E.Z b ∨ ((E.loc id).xs b ∧ ((E.loc id).nil = false → (E.loc id).b ≠ b))⟩, m.nt, fun t => RV.like (E := E) (E' := ⟨(E.xat id fun _ => False).loc, fun b => E.Z b ∨ ((E.loc id).xs b ∧ ((E.loc id).nil = false → (E.loc id).b ≠ b))⟩) (fun _ h => .inl h) hl _ _ (m.slots t), m.dfr, ⟨fun i k h => ?_, fun i j hi hj hij b g1 g2 => m.ok.inj i j (get i hi) (get j hj) hij b (key i b g1).1 (key j b g2).1, fun i hi b h hz => ?_, fun b hb => ?_, fun i hi b h => ?_⟩, m.frame, fun i hi b h => m.mine i (get i hi) b (key i b h).1, fun b hb => ?_, fun r hr => ?_⟩
 ·simp only [St.setH] at h
  by_cases hi : i = id
  ·subst hi
   rw [if_pos rfl] at h
   injection h with h; subst h
   have e : ∀ (Z : Nat → Prop), (⟨(E.xat i fun _ => False).loc, Z⟩ : Env).loc i = { E.loc i with xs := fun _ => False } := fun Z => xat_here E i _
   unfold Hold
   rw [e]
   refine ⟨h1, h2, h3, h4, h5.imp (fun h => h) ?_⟩
   rintro ⟨hn, c, flat, ls, k1, k2, k3, k4, k5, k6, k7⟩
   exact ⟨hn, c, flat, k1, k2, k3, k4, RNe.data (Z' := fun b => E.Z b ∨ ((E.loc i).xs b ∧ ((E.loc i).nil = false → (E.loc i).b ≠ b))) (fun _ h => .inl h) 0 es flat ls (fun b hb => .inr (k7.2 b hb)) k5, k6⟩
  ·rw [if_neg hi] at h
   exact Hold.like (E := E) (E' := ⟨(E.xat id fun _ => False).loc, fun b => E.Z b ∨ ((E.loc id).xs b ∧ ((E.loc id).nil = false → (E.loc id).b ≠ b))⟩) (fun _ h => .inl h) hl (xat_other E _ hi) (m.ok.hold i k h)
 ·obtain ⟨g1, g2⟩ := key i b h
  rcases hz with hz | ⟨hz, hz2⟩
  ·exact m.ok.apart i (get i hi) b g1 hz
  ·by_cases hi2 : i = id
   ·subst hi2
    rw [show (⟨(E.xat i fun _ => False).loc, _⟩ : Env).loc i = { E.loc i with xs := fun _ => False } from xat_here E i _] at h
    rcases h with ⟨q1, q2⟩ | h
    ·exact hz2 q1 q2
    ·exact h
   ·exact m.ok.inj i id (get i hi) h0 hi2 b g1 (.inr hz)
 ·rcases hb with hb | hb
  ·exact m.ok.zlt b hb
  ·exact m.ok.xlt id h0 b hb.1
 ·exact m.ok.own_lt (get i hi) (key i b (.inr h)).1
 ·rcases hb with hb | hb
  ·exact m.z b hb
  ·exact .inr (m.mine id h0 b (.inr hb.1))
 ·obtain ⟨g1, g2⟩ := m.roots r hr
  exact ⟨g1, by rw [show (⟨(E.xat id fun _ => False).loc, _⟩ : Env).loc r.1 = E.loc r.1 from xat_other E _ (fun e => hid' (by rw [← e]; exact g1))]; exact g2⟩
end Go.Ab
end
section
namespace Go.Ab
open Go.RowKit

theorem RNe_open {E : Env} {w : World} {sh : List (Option (TypeId × Nat))} {i : Nat} : ∀ (k : Nat) (es : List (List D)) (vs : List Value) (ls : List Loc), RNe E w sh [] k es vs ls → k ≤ i → i < k + es.length →
  ∃ e a la l1 l2, es[i - k]? = some e ∧ ls = l1 ++ (la ++ l2) ∧ RNs w E.Z sh e a la ∧ ∀ (E' : Env) (cs : List V), (∀ b, E.Z b → E'.Z b) → cs.length = e.length → (∀ c ∈ cs, c.cell = true) → RVs E' w cs a → RNe E' w sh [(i, cs)] k es vs (l1 ++ l2)
 | k, [], _, _, _, h1, h2 => by simp at h2; omega
 | k, e :: es, _, _, ⟨a, r, la, lr, h1, h2, h3, h4⟩, hk, hlt => by
  subst h1; subst h2
  have past : ∀ (E' : Env) (cs : List V), (∀ b, E.Z b → E'.Z b) → ∀ (k : Nat) (es : List (List D)) (vs : List Value) (ls : List Loc), i < k → RNe E w sh [] k es vs ls → RNe E' w sh [(i, cs)] k es vs ls := by
   intro E' cs hz k es
   induction es generalizing k with
   | nil => intro vs ls _ h; exact h
   | cons e es ih =>
    rintro vs ls hlt ⟨a, r, la, lr, g1, g2, g3, g4⟩
    refine ⟨a, r, la, lr, g1, g2, ?_, ih (k + 1) r lr (by omega) g4⟩
    simp only [flook]
    rw [if_neg (by omega)]
    exact RNs.z hz _ _ _ _ g3
  by_cases hik : i = k
  ·subst hik
   refine ⟨e, a, la, [], lr, by simp, rfl, h3, fun E' cs hz hl hc hr => ⟨a, r, [], lr, rfl, rfl, ?_, past E' cs hz _ _ _ _ (by omega) h4⟩⟩
   simp only [flook, if_true]
   exact ⟨trivial, hl, hc, hr⟩
  ·have hlt' : i < k + 1 + es.length := by simp at hlt; omega
   obtain ⟨e1, a1, la1, l1, l2, g1, g2, g3, g4⟩ := RNe_open (k + 1) es r lr h4 (by omega) hlt'
   refine ⟨e1, a1, la1, la ++ l1, l2, ?_, by rw [g2]; simp, g3, fun E' cs hz hl hc hr => ⟨a, r, la, l1 ++ l2, rfl, by simp, ?_, g4 E' cs hz hl hc hr⟩⟩
   ·rw [show i - k = (i - (k + 1)) + 1 by omega]; exact g1
   ·simp only [flook]
    rw [if_neg (fun e => hik e.symm)]
    exact RNs.z hz _ _ _ _ h3
theorem RNe_close {E : Env} {w : World} {sh : List (Option (TypeId × Nat))} {i : Nat} {cs : List V} : ∀ (k : Nat) (es : List (List D)) (vs : List Value) (ls : List Loc), RNe E w sh [(i, cs)] k es vs ls → k ≤ i → i < k + es.length →
  ∃ e a l1 l2, es[i - k]? = some e ∧ ls = l1 ++ l2 ∧ cs.length = e.length ∧ RVs E w cs a ∧ ∀ (E' : Env) (e' : List D) (la : List Loc), (∀ b, E.Z b → E'.Z b) → RNs w E'.Z sh e' a la → RNe E' w sh [] k (es.set (i - k) e') vs (l1 ++ (la ++ l2))
 | k, [], _, _, _, h1, h2 => by simp at h2; omega
 | k, e :: es, _, _, ⟨a, r, la, lr, h1, h2, h3, h4⟩, hk, hlt => by
  subst h1; subst h2
  have past : ∀ (E' : Env), (∀ b, E.Z b → E'.Z b) → ∀ (k : Nat) (es : List (List D)) (vs : List Value) (ls : List Loc), i < k → RNe E w sh [(i, cs)] k es vs ls → RNe E' w sh [] k es vs ls := by
   intro E' hz k es
   induction es generalizing k with
   | nil => intro vs ls _ h; exact h
   | cons e es ih =>
    rintro vs ls hlt ⟨a, r, la, lr, g1, g2, g3, g4⟩
    refine ⟨a, r, la, lr, g1, g2, ?_, ih (k + 1) r lr (by omega) g4⟩
    simp only [flook] at g3 ⊢
    rw [if_neg (by omega)] at g3
    exact RNs.z hz _ _ _ _ g3
  by_cases hik : i = k
  ·subst hik
   simp only [flook, if_true] at h3
   obtain ⟨rfl, h5, _, h6⟩ := h3
   refine ⟨e, a, [], lr, by simp, rfl, h5, h6, fun E' e' la hz hr => ?_⟩
   rw [Nat.sub_self, List.set_cons_zero]
   exact ⟨a, r, la, lr, rfl, rfl, hr, past E' hz _ _ _ _ (by omega) h4⟩
  ·have hlt' : i < k + 1 + es.length := by simp at hlt; omega
   obtain ⟨e1, a1, l1, l2, g1, g2, g3, g4, g5⟩ := RNe_close (k + 1) es r lr h4 (by omega) hlt'
   refine ⟨e1, a1, la ++ l1, l2, ?_, by rw [g2]; simp, g3, g4, fun E' e' la' hz hr => ?_⟩
   ·rw [show i - k = (i - (k + 1)) + 1 by omega]; exact g1
   ·rw [show i - k = (i - (k + 1)) + 1 by omega, List.set_cons_succ]
    refine ⟨a, r, la, l1 ++ (la' ++ l2), rfl, by simp, ?_, g5 E' e' la' hz hr⟩
    simp only [flook] at h3 ⊢
    rw [if_neg (fun e => hik e.symm)] at h3
    exact RNs.z hz _ _ _ _ h3

/-! ### opening -/
def openE : List (Option (TypeId × Nat)) → List D → List Nat → Option (List V × List (Nat × Blk))
 | [], [], [] => some ([], [])
 | none :: sh, d :: ds, is => (openE sh ds is).map fun p => (.d d :: p.1, p.2)
 | some (T, n) :: sh, .sl es :: ds, k :: is => (openE sh ds is).map fun p => (.ref k 0 es.length :: p.1, (k, .arr T n es) :: p.2)
 | _, _, _ => none
def holes : List V → List V
 | [] => []
 | c :: cs => (match c with | .d d => .d d | _ => .hole) :: holes cs
theorem holes_has (k : Nat) : ∀ cs : List V, hasL k (holes cs) = false
 | [] => rfl
 | c :: cs => by
  simp only [holes, hasL, holes_has k cs, Bool.or_false]
  split <;> rfl
theorem killC_none {k : Nat} : ∀ {cs : List V}, hasL k cs = false → killC k cs = cs
 | [], _ => rfl
 | c :: cs, h => by
  simp only [hasL, Bool.or_eq_false_iff] at h
  simp only [Ab.killC, h.1, Bool.false_eq_true, if_false, killC_none h.2]
def laysK : List (Nat × Blk) → St → St
 | [], S => S
 | (k, b) :: r, S => laysK r ((S.kill k).setH k (some b))

theorem openE_holes {w : World} {Z : Nat → Prop} (E : Env) (hz : ∀ b, Z b → E.Z b) : ∀ (sh : List (Option (TypeId × Nat))) (ds : List D) (vs : List Value) (la : List Loc) (is : List Nat) (cs : List V) (bs : List (Nat × Blk)), openE sh ds is = some (cs, bs) → RNs w Z sh ds vs la →
  RVs E w (holes cs) vs ∧ (∀ c ∈ holes cs, c.cell = true) ∧ (∀ c ∈ cs, c.cell = true) ∧ cs.length = ds.length ∧ (holes cs).length = ds.length ∧ bs.map (·.1) = is := by
 intro sh
 induction sh with
 | nil =>
  rintro ds vs la is cs bs h ⟨rfl, rfl, rfl⟩
  cases is with
  | nil => injection h with h; injection h with h1 h2; subst h1; subst h2; exact ⟨rfl, (fun _ h => by cases h), (fun _ h => by cases h), rfl, rfl, rfl⟩
  | cons k is => cases h
 | cons x sh ih =>
  intro ds vs la is cs bs h hr
  cases x with
  | none =>
   obtain ⟨d, ds', v, r, rfl, rfl, h1, h2⟩ := hr
   simp only [openE] at h
   cases ho : openE sh ds' is with
   | none => simp [ho] at h
   | some p =>
    simp only [ho, Option.map_some, Option.some.injEq, Prod.mk.injEq] at h
    obtain ⟨rfl, rfl⟩ := h
    obtain ⟨g1, g2, g3, g4, g5, g6⟩ := ih ds' r la is p.1 p.2 ho h2
    refine ⟨⟨v, r, rfl, RD.keep (fun _ _ => rfl) hz d v h1, g1⟩, fun c hc => ?_, fun c hc => ?_, by simp [g4], by simp [holes, g5], g6⟩
    ·rcases List.mem_cons.1 hc with rfl | hc
     ·rfl
     ·exact g2 c hc
    ·rcases List.mem_cons.1 hc with rfl | hc
     ·rfl
     ·exact g3 c hc
  | some tn =>
   obtain ⟨T, n⟩ := tn
   obtain ⟨es, ds', v, r, ℓ, ls', rfl, rfl, rfl, h1, h2⟩ := hr
   cases is with
   | nil => cases h
   | cons k is =>
    simp only [openE] at h
    cases ho : openE sh ds' is with
    | none => simp [ho] at h
    | some p =>
     simp only [ho, Option.map_some, Option.some.injEq, Prod.mk.injEq] at h
     obtain ⟨rfl, rfl⟩ := h
     obtain ⟨g1, g2, g3, g4, g5, g6⟩ := ih ds' r ls' is p.1 p.2 ho h2
     refine ⟨⟨v, r, rfl, ?_, g1⟩, fun c hc => ?_, fun c hc => ?_, by simp [g4], by simp [holes, g5], by simp [g6]⟩
     ·exact RV_cell (E := ⟨fun _ => ℓ, Z⟩) (w := w) (c := .ref 0 0 es.length) h1.1 rfl
     ·rcases List.mem_cons.1 hc with rfl | hc
      ·rfl
      ·exact g2 c hc
     ·rcases List.mem_cons.1 hc with rfl | hc
      ·rfl
      ·exact g3 c hc

/-- a block that nothing of the state owns -/
def Lone (fx : Fx) (S : St) (E : Env) (w : World) (b : Nat) : Prop := (fx.w0.heap.size ≤ b ∨ fx.L b) ∧ ¬ E.Z b ∧ b < w.heap.size ∧ ∀ i, S.hp i ≠ none → ¬ (E.loc i).own b

theorem Mod.split {fx : Fx} {a : Act} {w : World} : ∀ (sh : List (Option (TypeId × Nat))) (ds : List D) (vs : List Value) (la : List Loc) (is : List Nat) (cs : List V) (bs : List (Nat × Blk)) {S : St} {E : Env}, openE sh ds is = some (cs, bs) → RNs w E.Z sh ds vs la → (blks la).Nodup → (∀ b ∈ blks la, Lone fx S E w b) → is.Nodup →
  (∀ k ∈ is, k ∉ S.rts) → Mod fx S E a w → ∃ E', Mod fx (laysK bs S) E' a w ∧ E'.Z = E.Z ∧ (∀ j, j ∉ is → E'.loc j = E.loc j) ∧ RVs E' w cs vs := by
 intro sh
 induction sh with
 | nil =>
  rintro ds vs la is cs bs S E h ⟨rfl, rfl, rfl⟩ _ _ _ _ m
  cases is with
  | nil => injection h with h; injection h with h1 h2; subst h1; subst h2; exact ⟨E, m, rfl, fun _ _ => rfl, rfl⟩
  | cons k is => cases h
 | cons x sh ih =>
  intro ds vs la is cs bs S E h hr hd hb hn hrt m
  cases x with
  | none =>
   obtain ⟨d, ds', v, r, rfl, rfl, h1, h2⟩ := hr
   simp only [openE] at h
   cases ho : openE sh ds' is with
   | none => simp [ho] at h
   | some p =>
    simp only [ho, Option.map_some, Option.some.injEq, Prod.mk.injEq] at h
    obtain ⟨rfl, rfl⟩ := h
    obtain ⟨E', g1, g2, g3, g4⟩ := ih ds' r la is p.1 p.2 ho h2 hd hb hn hrt m
    exact ⟨E', g1, g2, g3, v, r, rfl, RD.keep (fun _ _ => rfl) (fun b hb => by rw [g2]; exact hb) d v h1, g4⟩
  | some tn =>
   obtain ⟨T, n⟩ := tn
   obtain ⟨es, ds', v, r, ℓ, ls', rfl, rfl, rfl, ⟨h1, h5⟩, h2⟩ := hr
   cases is with
   | nil => cases h
   | cons k is =>
    simp only [openE] at h
    cases ho : openE sh ds' is with
    | none => simp [ho] at h
    | some p =>
     simp only [ho, Option.map_some, Option.some.injEq, Prod.mk.injEq] at h
     obtain ⟨rfl, rfl⟩ := h
     obtain ⟨hnk, hn'⟩ := List.nodup_cons.1 hn
     have hsub : ∀ b ∈ blks ls', b ∈ blks (ℓ :: ls') := fun b hb => by
      unfold blks at hb ⊢
      rw [List.filterMap_cons]
      split
      ·exact hb
      ·exact List.mem_cons_of_mem _ hb
     have hd' : (blks ls').Nodup := by
      unfold blks at hd ⊢
      rw [List.filterMap_cons] at hd
      split at hd
      ·exact hd
      ·exact (List.nodup_cons.1 hd).2
     have hne : ∀ b ∈ blks ls', ℓ.nil = false → ℓ.b ≠ b := fun b hb hnil e => by
      unfold blks at hd hb
      rw [List.filterMap_cons] at hd
      simp only [hnil, Bool.false_eq_true, if_false] at hd
      exact (List.nodup_cons.1 hd).1 (by rw [e]; exact hb)
     have m1 := m.re0 (row := none) (hrt k (List.mem_cons_self ..)) ⟨rfl, rfl, rfl, Nat.le_refl _, fun _ _ _ => rfl⟩ (fun b hb => by cases hb) { ℓ with xs := fun _ => False } (blk := .arr T n es) (by
       unfold Hold
       simp only [Env.at, if_true]
       exact h5) (fun b hob => by
       rcases hob with ⟨q1, q2⟩ | q
       ·obtain ⟨l1, l2, l3, l4⟩ := hb b (by
         have q1 : ℓ.nil = false := q1
         have q2 : ℓ.b = b := q2
         simp [blks, q1, q2])
        exact ⟨l1, l2, l3, fun i _ hi => l4 i hi⟩
       ·exact q.elim)
     obtain ⟨E', g1, g2, g3, g4⟩ := ih ds' r ls' is p.1 p.2 (S := (S.kill k).setH k (some (.arr T n es))) (E := E.at k { ℓ with xs := fun _ => False }) ho h2 hd' (fun b hb' => by
       obtain ⟨l1, l2, l3, l4⟩ := hb b (hsub b hb')
       refine ⟨l1, l2, l3, fun i hi ho => ?_⟩
       by_cases hik : i = k
       ·subst hik
        simp only [Env.at, if_true] at ho
        rcases ho with ⟨q1, q2⟩ | q
        ·exact hne b hb' q1 q2
        ·exact q
       ·simp only [Env.at, if_neg hik] at ho
        refine l4 i ?_ ho
        simp only [St.setH, if_neg hik, St.kill] at hi
        intro e
        rw [e] at hi
        exact hi rfl) hn' (fun j hj => hrt j (List.mem_cons_of_mem _ hj)) m1
     refine ⟨E', g1, g2, fun j hj => ?_, v, r, rfl, ?_, g4⟩
     ·rw [g3 j (fun h => hj (List.mem_cons_of_mem _ h))]
      simp only [Env.at]
      rw [if_neg (fun e => hj (by rw [e]; exact List.mem_cons_self ..))]
     ·unfold RV at h1 ⊢
      rw [g3 k hnk]
      have e : (E.at k { ℓ with xs := fun _ => False }).loc k = { ℓ with xs := fun _ => False } := by simp [Env.at]
      rw [e]
      exact h1

theorem laysK_hp {id : Nat} {b : Blk} : ∀ (bs : List (Nat × Blk)) (S : St), (∀ p ∈ bs, p.1 ≠ id) → (∀ k, b.killed k = b) → S.hp id = some b → (laysK bs S).hp id = some b
 | [], S, _, _, h => h
 | (k, x) :: r, S, hne, hk, h => laysK_hp r _ (fun p hp => hne p (.tail _ hp)) hk (by
   have : id ≠ k := fun e => hne (k, x) (.head _) e.symm
   simp only [St.setH, if_neg this, St.kill, h, Option.map_some, hk])
/-- one of the rows within is opened: the names is are those of the rows in its cells -/
theorem Sub.open {S : St} (id i : Nat) (is : List Nat) {T n : Nat} {sh : List (Option (TypeId × Nat))} {es : List (List D)} {e : List D} {cs : List V} {bs : List (Nat × Blk)} (hid : S.rts.contains id = false) (hH : S.hp id = some (.nest T n sh es [])) (he : es[i]? = some e) (ho : openE sh e is = some (cs, bs))
  (hn : is.Nodup) (hr : is.all (fun k => !S.rts.contains k && k != id) = true) : Sub S ((laysK bs S).setH id (some (.nest T n sh es [(i, cs)]))) := .of fun fx a w E m => by
 have hid' : id ∉ S.rts := by simpa using hid
 have hr' : ∀ k ∈ is, k ∉ S.rts ∧ k ≠ id := fun k hk => by
  have := List.all_eq_true.1 hr k hk
  simpa using this
 have h0 : S.hp id ≠ none := by rw [hH]; simp
 obtain ⟨h1, h2, h3, h4, hs, hfo, h5⟩ := m.ok.hold id _ hH
 have hlt : i < es.length := (List.getElem?_eq_some_iff.1 he).1
 rcases h5 with ⟨_, h6⟩ | ⟨hnil, c, flat, ls, k1, k2, k3, k4, k5, k6, k7⟩
 ·rw [h6] at hlt; simp at hlt
 have hlt0 : i < 0 + es.length := by omega
 obtain ⟨e0, va, la, l1, l2, g1, g2, g3, g4⟩ := RNe_open 0 es flat ls k5 (Nat.zero_le _) hlt0
 rw [Nat.sub_zero, he] at g1
 injection g1 with g1
 subst g1
 obtain ⟨q1, q2, q3, q4, q5, q6⟩ := openE_holes (E.xat id fun b => (E.loc id).xs b ∧ b ∉ blks la) (fun _ h => h) sh e va la is cs bs ho g3
 subst g2
 obtain ⟨k7a, k7b⟩ := k7
 rw [blks_append, blks_append] at k7a
 have hd1 := List.nodup_append.1 k7a
 have hd2 := List.nodup_append.1 hd1.2.1
 have dis : NDis { E.loc id with xs := fun b => (E.loc id).xs b ∧ b ∉ blks la } (l1 ++ l2) := by
  refine ⟨?_, fun b hb => ?_⟩
  ·rw [blks_append]
   exact List.nodup_append.2 ⟨hd1.1, hd2.2.1, fun x hx y hy => hd1.2.2 x hx y (List.mem_append_right _ hy)⟩
  ·rw [blks_append] at hb
   have hin : b ∈ blks (l1 ++ (la ++ l2)) := by
    rw [blks_append, blks_append]
    exact (List.mem_append.1 hb).elim (fun h => List.mem_append_left _ h) (fun h => List.mem_append_right _ (List.mem_append_right _ h))
   refine ⟨⟨(k7b b hin).1, fun hla => ?_⟩, (k7b b hin).2⟩
   rcases List.mem_append.1 hb with h | h
   ·exact hd1.2.2 b h b (List.mem_append_left _ hla) rfl
   ·exact hd2.2.2 b hla b h rfl
 -- the element is open, its rows not yet there
 have m1 := m.xs hid' h0 (fun b => (E.loc id).xs b ∧ b ∉ blks la) (blk := .nest T n sh es [(i, holes cs)]) (fun b hb => .inl hb.1) (by
  unfold Hold
  rw [xat_here]
  refine ⟨h1, h2, h3, h4, hs, fun p hp => ?_, .inr ⟨hnil, c, flat, l1 ++ l2, k1, k2, k3, k4, g4 _ _ (fun _ h => h) (q5.trans rfl) q2 q1, k6, dis⟩⟩
  rw [List.mem_singleton] at hp
  rw [hp]; exact hlt)
 have lone : ∀ b ∈ blks la, Lone fx (S.setH id (some (.nest T n sh es [(i, holes cs)]))) (E.xat id fun b => (E.loc id).xs b ∧ b ∉ blks la) w b := fun b hb => by
  have hin : b ∈ blks (l1 ++ (la ++ l2)) := by
   rw [blks_append, blks_append]; exact List.mem_append_right _ (List.mem_append_left _ hb)
  obtain ⟨x1, x2⟩ := k7b b hin
  refine ⟨m.mine id h0 b (.inr x1), m.ok.apart id h0 b (.inr x1), m.ok.xlt id h0 b x1, fun j hj hown => ?_⟩
  by_cases hji : j = id
  ·subst hji
   rw [xat_here] at hown
   rcases hown with ⟨y1, y2⟩ | y
   ·exact x2 y1 y2
   ·exact y.2 hb
  ·rw [xat_other E _ hji] at hown
   exact m.ok.inj j id (setH_get h0 hj) h0 hji b hown (.inr x1)
 obtain ⟨E', m2, z1, z2, z3⟩ := Mod.split sh e va la is cs bs ho (S := S.setH id (some (.nest T n sh es [(i, holes cs)]))) (E := E.xat id fun b => (E.loc id).xs b ∧ b ∉ blks la) g3 hd2.1 lone hn (fun k hk => (hr' k hk).1) m1
 have hne : ∀ p ∈ bs, p.1 ≠ id := fun p hp => (hr' p.1 (by rw [← q6]; exact List.mem_map.2 ⟨p, hp, rfl⟩)).2
 have hH2 : (laysK bs (S.setH id (some (.nest T n sh es [(i, holes cs)])))).hp id = some (.nest T n sh es [(i, holes cs)]) := laysK_hp bs _ hne (fun k => by simp [Blk.killed, killC_none (holes_has k cs)]) (by simp [St.setH])
 have hl : E'.loc id = { E.loc id with xs := fun b => (E.loc id).xs b ∧ b ∉ blks la } := by
  rw [z2 id (fun h => (hr' id h).2 rfl), xat_here]
 have m3 := m2.wr hH2 (by rw [hl]; exact hnil) (w' := w) ⟨rfl, rfl, rfl, Nat.le_refl _, fun _ _ _ => rfl⟩ (blk := .nest T n sh es [(i, cs)]) (by
  unfold Hold
  rw [hl]
  refine ⟨h1, h2, h3, h4, hs, fun p hp => ?_, .inr ⟨hnil, c, flat, l1 ++ l2, k1, k2, k3, k4, g4 _ _ (fun b h => by rw [z1]; exact h) q4 q3 z3, k6, dis⟩⟩
  rw [List.mem_singleton] at hp
  rw [hp]; exact hlt)
 have key : ∀ (bs : List (Nat × Blk)) (S : St) (x y : Option Blk), (∀ p ∈ bs, p.1 ≠ id) → (laysK bs (S.setH id x)).setH id y = (laysK bs S).setH id y := by
  intro bs
  induction bs with
  | nil =>
   intro S x y _
   simp only [laysK, St.setH]
   congr 1
   funext j
   by_cases hj : j = id <;> simp [hj]
  | cons p bs ih =>
   intro S x y hne
   obtain ⟨k, b⟩ := p
   have hk : id ≠ k := fun e => hne (k, b) (.head _) e.symm
   simp only [laysK]
   have : ((S.setH id x).kill k).setH k (some b) = ((S.kill k).setH k (some b)).setH id (x.map (Blk.killed k)) := by
    simp only [St.setH, St.kill]
    congr 1
    funext j
    by_cases hj : j = k
    ·subst hj
     have hj' : ¬ j = id := fun e => hk e.symm
     simp [hj']
    ·by_cases hj2 : j = id
     ·subst hj2; simp [hj]
     ·simp [hj, hj2]
   rw [this]
   exact ih _ _ _ (fun p hp => hne p (.tail _ hp))
 rw [key bs S _ _ hne] at m3
 exact ⟨E', m3⟩

/-! ### closing -/
def closeE (H : Heap) : List (Option (TypeId × Nat)) → List V → Option (List D × List Nat)
 | [], [] => some ([], [])
 | none :: sh, .d d :: cs => (closeE H sh cs).map fun p => (d :: p.1, p.2)
 | some (T, n) :: sh, .ref k off len :: cs => match H k with
  | some (.arr T' n' es) => if off = 0 ∧ T' = T ∧ n' = n ∧ len = es.length then (closeE H sh cs).map fun p => (.sl es :: p.1, k :: p.2) else none
  | _ => none
 | some (_, n) :: sh, .d d :: cs => if isNilD d = true ∧ 0 < n then (closeE H sh cs).map fun p => (.sl [] :: p.1, p.2) else none
 | _, _ => none
theorem closeE_sound {E : Env} {H : Heap} {w : World} (ok : E.ok H w) : ∀ (sh : List (Option (TypeId × Nat))) (cs : List V) (vs : List Value) (e : List D) (ks : List Nat), closeE H sh cs = some (e, ks) → ks.Nodup → RVs E w cs vs →
  e.length = cs.length ∧ (∀ k ∈ ks, H k ≠ none) ∧ ∃ la, RNs w E.Z sh e vs la ∧ (blks la).Nodup ∧ ∀ b ∈ blks la, ∃ k ∈ ks, (E.loc k).own b := by
 intro sh
 induction sh with
 | nil =>
  intro cs vs e ks h _ hr
  cases cs with
  | nil => injection h with h; injection h with h1 h2; subst h1; subst h2; exact ⟨rfl, (fun _ h => by cases h), [], ⟨rfl, hr, rfl⟩, List.nodup_nil, fun b hb => by cases hb⟩
  | cons c cs => cases h
 | cons x sh ih =>
  intro cs vs e ks h hn hr
  cases cs with
  | nil => cases x <;> cases h
  | cons c cs =>
   obtain ⟨v, r, rfl, h1, h2⟩ := hr
   cases x with
   | none =>
    cases c with
    | d d =>
     simp only [closeE] at h
     cases ho : closeE H sh cs with
     | none => simp [ho] at h
     | some p =>
      simp only [ho, Option.map_some, Option.some.injEq, Prod.mk.injEq] at h
      obtain ⟨rfl, rfl⟩ := h
      obtain ⟨g1, g2, la, g3, g4, g5⟩ := ih cs r p.1 p.2 ho hn h2
      exact ⟨by simp [g1], g2, la, ⟨d, p.1, v, r, rfl, rfl, h1, g3⟩, g4, g5⟩
    | _ => simp [closeE] at h
   | some tn =>
    obtain ⟨T, n⟩ := tn
    cases c with
    | d d =>
     simp only [closeE] at h
     split at h
     ·rename_i hc
      obtain ⟨hd0, hpos⟩ := hc
      have hd0 := isNilD_spec hd0
      subst hd0
      cases ho : closeE H sh cs with
      | none => simp [ho] at h
      | some p =>
       simp only [ho, Option.map_some, Option.some.injEq, Prod.mk.injEq] at h
       obtain ⟨rfl, rfl⟩ := h
       obtain ⟨g1, g2, la, g3, g4, g5⟩ := ih cs r p.1 p.2 ho hn h2
       have e0 : blks (⟨0, 0, n, 0, true, fun _ => False⟩ :: la) = blks la := by simp [blks]
       refine ⟨by simp [g1], g2, ⟨0, 0, n, 0, true, fun _ => False⟩ :: la, ⟨[], p.1, v, r, _, la, rfl, rfl, rfl, ⟨.inl ⟨rfl, rfl, rfl, (RD_lit h1)⟩, rfl, rfl, (fun _ h => by cases h), hpos, .inl ⟨rfl, rfl⟩⟩, g3⟩, by rw [e0]; exact g4, by rw [e0]; exact g5⟩
     ·cases h
    | ref k off len =>
     simp only [closeE] at h
     split at h
     ·rename_i T' n' es hH
      split at h
      ·rename_i hc
       obtain ⟨rfl, rfl, rfl, rfl⟩ := hc
       cases ho : closeE H sh cs with
       | none => simp [ho] at h
       | some p =>
        simp only [ho, Option.map_some, Option.some.injEq, Prod.mk.injEq] at h
        obtain ⟨rfl, rfl⟩ := h
        obtain ⟨hnk, hn'⟩ := List.nodup_cons.1 hn
        obtain ⟨g1, g2, la, g3, g4, g5⟩ := ih cs r p.1 p.2 ho hn' h2
        have hk0 : H k ≠ none := by rw [hH]; simp
        have hh := ok.hold k _ hH
        refine ⟨by simp [g1], fun j hj => ?_, E.loc k :: la, ⟨es, p.1, v, r, E.loc k, la, rfl, rfl, rfl, ⟨?_, hh⟩, g3⟩, ?_, fun b hb => ?_⟩
        ·rcases List.mem_cons.1 hj with rfl | hj
         ·exact hk0
         ·exact g2 j hj
        ·unfold RV at h1 ⊢; exact h1
        ·unfold blks
         rw [List.filterMap_cons]
         split
         ·exact g4
         ·rename_i b hb
          refine List.nodup_cons.2 ⟨fun hin => ?_, g4⟩
          obtain ⟨j, hj, hown⟩ := g5 b hin
          split at hb
          ·cases hb
          ·rename_i hnil
           injection hb with hb
           refine ok.inj k j hk0 (g2 j hj) (fun e => hnk (by rw [e]; exact hj)) b ?_ hown
           exact .inl ⟨by simpa using hnil, hb⟩
        ·unfold blks at hb
         rw [List.filterMap_cons] at hb
         split at hb
         ·obtain ⟨j, hj, hown⟩ := g5 b hb
          exact ⟨j, List.mem_cons_of_mem _ hj, hown⟩
         ·rename_i b' hb'
          rcases List.mem_cons.1 hb with rfl | hb
          ·split at hb'
           ·cases hb'
           ·rename_i hnil
            injection hb' with hb'
            exact ⟨k, List.mem_cons_self .., .inl ⟨by simpa using hnil, hb'⟩⟩
          ·obtain ⟨j, hj, hown⟩ := g5 b hb
           exact ⟨j, List.mem_cons_of_mem _ hj, hown⟩
      ·cases h
     ·cases h
    | _ => simp [closeE] at h

def kills : List Nat → St → St
 | [], S => S
 | k :: r, S => kills r (S.kill k)
theorem kills_hp : ∀ (ks : List Nat) (S : St) (i : Nat), (kills ks S).hp i ≠ none → S.hp i ≠ none ∧ i ∉ ks
 | [], S, i, h => ⟨h, by simp⟩
 | k :: r, S, i, h => by
  obtain ⟨h1, h2⟩ := kills_hp r _ i h
  cases hk : (S.kill k).hp i with
  | none => exact absurd hk h1
  | some b =>
   obtain ⟨g1, b0, g2, _⟩ := kill_hp hk
   exact ⟨by rw [g2]; simp, fun hin => (List.mem_cons.1 hin).elim g1 h2⟩
theorem kills_rts : ∀ (ks : List Nat) (S : St), (kills ks S).rts = S.rts
 | [], _ => rfl
 | _ :: r, _ => kills_rts r _
theorem Mod.kills {fx : Fx} {E : Env} {a : Act} {w : World} : ∀ (ks : List Nat) {S : St}, Mod fx S E a w → (∀ k ∈ ks, k ∉ S.rts) → Mod fx (Ab.kills ks S) E a w
 | [], _, m, _ => m
 | k :: r, S, m, h => by
  have m1 := m.kill (h k (List.mem_cons_self ..)) (E.loc k)
  rw [at_same] at m1
  exact Mod.kills r m1 (fun j hj => h j (List.mem_cons_of_mem _ hj))
theorem kills_some {id : Nat} : ∀ (ks : List Nat) (S : St), id ∉ ks → S.hp id ≠ none → (kills ks S).hp id ≠ none
 | [], _, _, h => h
 | k :: r, S, hn, h => by
  refine kills_some r _ (fun h => hn (List.mem_cons_of_mem _ h)) ?_
  have : id ≠ k := fun e => hn (by rw [e]; exact List.mem_cons_self ..)
  simp only [St.kill, if_neg this]
  cases hk : S.hp id with
  | none => exact absurd hk h
  | some b => simp

/-- an open row within is closed: the rows of its cells are the state's no more -/
theorem Sub.close {S : St} (id i : Nat) {T n : Nat} {sh : List (Option (TypeId × Nat))} {es : List (List D)} {cs : List V} {e : List D} {ks : List Nat} (hid : S.rts.contains id = false) (hH : S.hp id = some (.nest T n sh es [(i, cs)])) (hc : closeE S.hp sh cs = some (e, ks)) (hn : ks.Nodup)
  (hr : ks.all (fun k => !S.rts.contains k && k != id) = true) : Sub S ((kills ks S).setH id (some (.nest T n sh (es.set i e) []))) := .of fun fx a w E m => by
 have hid' : id ∉ S.rts := by simpa using hid
 have hr' : ∀ k ∈ ks, k ∉ S.rts ∧ k ≠ id := fun k hk => by
  have := List.all_eq_true.1 hr k hk
  simpa using this
 have h0 : S.hp id ≠ none := by rw [hH]; simp
 obtain ⟨h1, h2, h3, h4, hs, hfo, h5⟩ := m.ok.hold id _ hH
 have hlt : i < es.length := hfo (i, cs) (List.mem_singleton.2 rfl)
 rcases h5 with ⟨_, h6⟩ | ⟨hnil, c, flat, ls, k1, k2, k3, k4, k5, k6, k7⟩
 ·rw [h6] at hlt; simp at hlt
 have hlt0 : i < 0 + es.length := by omega
 obtain ⟨e0, va, l1, l2, g1, g2, g3, g4, g5⟩ := RNe_close 0 es flat ls k5 (Nat.zero_le _) hlt0
 rw [Nat.sub_zero] at g1 g5
 obtain ⟨c1, c2, la, c3, c4, c5⟩ := closeE_sound m.ok sh cs va e ks hc hn g4
 subst g2
 obtain ⟨k7a, k7b⟩ := k7
 have m1 := Mod.kills ks m (fun k hk => (hr' k hk).1)
 have hid2 : id ∉ (kills ks S).rts := by rw [kills_rts]; exact hid'
 have h02 : (kills ks S).hp id ≠ none := kills_some ks S (fun h => (hr' id h).2 rfl) h0
 have own : ∀ b ∈ blks la, ∃ k, k ∈ ks ∧ k ≠ id ∧ S.hp k ≠ none ∧ (E.loc k).own b := fun b hb => by
  obtain ⟨k, q1, q2⟩ := c5 b hb
  exact ⟨k, q1, (hr' k q1).2, c2 k q1, q2⟩
 have hlen : e.length = e0.length := c1.trans g3
 refine ⟨_, m1.xs hid2 h02 (fun b => (E.loc id).xs b ∨ b ∈ blks la) (fun b hb => ?_) ?_⟩
 ·rcases hb with hb | hb
  ·exact .inl hb
  ·obtain ⟨k, q1, q2, q3, q4⟩ := own b hb
   refine .inr ⟨m.mine k q3 b q4, m.ok.apart k q3 b q4, m.ok.own_lt q3 q4, fun j _ hj hown => ?_⟩
   obtain ⟨y1, y2⟩ := kills_hp ks S j hj
   exact m.ok.inj j k y1 q3 (fun e => y2 (by rw [e]; exact q1)) b hown q4
 ·unfold Hold
  rw [xat_here]
  refine ⟨h1, h2, fun x hx => ?_, h4, hs, (fun _ h => by cases h), .inr ⟨hnil, c, flat, l1 ++ (la ++ l2), k1, by rw [List.length_set]; exact k2, k3, k4, g5 _ e la (fun _ h => h) c3, by rw [List.length_set]; exact k6, ?_, fun b hb => ?_⟩⟩
  ·rcases List.mem_or_eq_of_mem_set hx with h | h
   ·exact h3 x h
   ·rw [h, hlen]; exact h3 e0 (List.mem_of_getElem? g1)
  ·rw [blks_append] at k7a
   have hd := List.nodup_append.1 k7a
   rw [blks_append, blks_append]
   have dl : ∀ x ∈ blks la, ∀ y, (E.loc id).xs y → x ≠ y := fun x hx y hy e => by
    obtain ⟨k, q1, q2, q3, q4⟩ := own x hx
    exact m.ok.inj k id q3 h0 q2 x q4 (.inr (e ▸ hy))
   refine List.nodup_append.2 ⟨hd.1, List.nodup_append.2 ⟨c4, hd.2.1, fun x hx y hy => dl x hx y (k7b y (by rw [blks_append]; exact List.mem_append_right _ hy)).1⟩, fun x hx y hy => ?_⟩
   rcases List.mem_append.1 hy with hy | hy
   ·exact fun e => dl y hy x (k7b x (by rw [blks_append]; exact List.mem_append_left _ hx)).1 e.symm
   ·exact hd.2.2 x hx y hy
  ·rw [blks_append, blks_append] at hb
   have old : b ∈ blks (l1 ++ l2) → ((E.loc id).xs b ∨ b ∈ blks la) ∧ ((E.loc id).nil = false → (E.loc id).b ≠ b) := fun h => ⟨.inl (k7b b h).1, (k7b b h).2⟩
   rcases List.mem_append.1 hb with hb | hb
   ·exact old (by rw [blks_append]; exact List.mem_append_left _ hb)
   ·rcases List.mem_append.1 hb with hb | hb
    ·refine ⟨.inr hb, fun hn' e => ?_⟩
     obtain ⟨k, q1, q2, q3, q4⟩ := own b hb
     exact m.ok.inj k id q3 h0 q2 b q4 (.inl ⟨hn', e⟩)
    ·exact old (by rw [blks_append]; exact List.mem_append_right _ hb)
attribute [simp] openE closeE laysK kills flook fset nz isNilD
end Go.Ab
end
section
namespace Go.Ab
open Go.RowKit

theorem mapO_rep {α β : Type} {g : α → Option β} {x : α} {y : β} (h : g x = some y) : ∀ n : Nat, mapO g (List.replicate n x) = some (List.replicate n y)
 | 0 => rfl
 | n + 1 => by simp only [List.replicate_succ, mapO, h, mapO_rep h n]

theorem setH_setH (S : St) (id : Nat) (x y : Option Blk) : (S.setH id x).setH id y = S.setH id y := by
 simp only [St.setH]
 congr 1
 funext i
 by_cases h : i = id <;> simp [h]
theorem setH_comm (S : St) {i j : Nat} (h : i ≠ j) (x y : Option Blk) : (S.setH i x).setH j y = (S.setH j y).setH i x := by
 simp only [St.setH]
 congr 1
 funext k
 by_cases h1 : k = i
 ·subst h1; simp [h]
 ·simp [h1]

theorem Sub.freezeN {nt : Nat} {rts : List Nat} {l : List (Nat × V)} {h : List (Nat × Option Blk)} (id : Nat) {T n : Nat} {sh : List (Option (TypeId × Nat))} {es : List (List D)} (hid : rts.contains id = false) (hes : hlook h id = some (.nest T n sh es [])) : Sub (mk nt rts l h) (mk nt rts (frzL id es l) (frzH id es h)) := by
 have h1 : Sub (mk nt rts l h) ((mk nt rts l h).setH id (some (.arr T n es))) := Sub.nestArr id hid hes
 rw [mk_setH] at h1
 have h2 := Sub.freeze (nt := nt) (rts := rts) (l := l) (h := hupd h id (some (.arr T n es))) id (T := T) (n := n) (es := es) (by rw [hlook_hupd, if_pos rfl])
 have e : frzH id es (hupd h id (some (.arr T n es))) = frzH id es h := by
  clear h1 h2
  induction h with
  | nil => cases hes
  | cons p r ih =>
   obtain ⟨k, b⟩ := p
   simp only [hlook] at hes
   by_cases hk : k = id
   ·subst hk
    simp [hupd, frzH]
   ·rw [if_neg (fun e => hk e.symm)] at hes
    simp only [hupd, if_neg hk, frzH, ih hes]
 rw [e] at h2
 exact h1.trans h2

theorem Sub.nilOwnBoxN {S : St} {bid j id T n : Nat} {cs : List V} (sh : List (Option (TypeId × Nat))) (hcs : S.hp bid = some (.box cs)) (hj : cs[j]? = some (.d (.lit (.slice none 0 0)))) (hne : bid ≠ id) (hid : S.rts.contains id = false) (hn : 0 < n) (hl : sh.length = n) :
  Sub S (((S.kill id).setH id (some (.nest T n sh [] []))).setH bid (some (.box ((killC id cs).set j (.ref id 0 0))))) := by
 have h1 := Sub.nilOwnBox (S := S) (bid := bid) (j := j) (id := id) (T := T) (n := n) hcs hj hne hid hn
 have h2 := Sub.toNest (S := ((S.kill id).setH id (some (.arr T n []))).setH bid (some (.box ((killC id cs).set j (.ref id 0 0))))) id (T := T) (n := n) (es := []) (es' := []) sh hid (by simp [St.setH, if_neg (show ¬ id = bid from fun e => hne e.symm)]) rfl hl
 rw [setH_comm _ hne, setH_setH] at h2
 exact h1.trans h2

/-- an open row that has not turned is closed -/
theorem Sub.closeSame {S : St} (id i : Nat) {T n : Nat} {sh : List (Option (TypeId × Nat))} {es : List (List D)} {cs : List V} {e : List D} {ks : List Nat} (hid : S.rts.contains id = false) (hH : S.hp id = some (.nest T n sh es [(i, cs)])) (he : es[i]? = some e) (hc : closeE S.hp sh cs = some (e, ks)) (hn : ks.Nodup)
  (hr : ks.all (fun k => !S.rts.contains k && k != id) = true) : Sub S ((kills ks S).setH id (some (.nest T n sh es []))) := by
 have h := Sub.close id i hid hH hc hn hr
 have e1 : es.set i e = es := by
  obtain ⟨h1, h2⟩ := List.getElem?_eq_some_iff.1 he
  rw [← h2]; simp
 rw [e1] at h
 exact h
end Go.Ab
end
section
namespace Go.Ab
open Go.RowKit

theorem RNe_ix {E : Env} {w : World} {sh : List (Option (TypeId × Nat))} : ∀ (k k' : Nat) (es : List (List D)) (vs : List Value) (ls : List Loc), RNe E w sh [] k es vs ls → RNe E w sh [] k' es vs ls
 | _, _, [], _, _, h => h
 | k, k', _ :: es, _, _, ⟨a, r, la, lr, h1, h2, h3, h4⟩ => ⟨a, r, la, lr, h1, h2, h3, RNe_ix (k + 1) (k' + 1) es r lr h4⟩
theorem RNe_app {E : Env} {w : World} {sh : List (Option (TypeId × Nat))} : ∀ (k : Nat) (es es' : List (List D)) (vs vs' : List Value) (ls ls' : List Loc), RNe E w sh [] k es vs ls → RNe E w sh [] 0 es' vs' ls' → RNe E w sh [] k (es ++ es') (vs ++ vs') (ls ++ ls')
 | k, [], es', _, vs', _, ls', ⟨h1, h2⟩, g => by
  subst h1; subst h2
  exact RNe_ix 0 k es' vs' ls' g
 | k, e :: es, es', _, vs', _, ls', ⟨a, r, la, lr, h1, h2, h3, h4⟩, g => by
  subst h1; subst h2
  exact ⟨a, r ++ vs', la, lr ++ ls', by simp, by simp, h3, RNe_app (k + 1) es es' r vs' lr ls' h4 g⟩
theorem RNe.z {E E' : Env} {w : World} (hz : ∀ b, E.Z b → E'.Z b) {sh : List (Option (TypeId × Nat))} (k : Nat) (es : List (List D)) (vs : List Value) (ls : List Loc) (h : RNe E w sh [] k es vs ls) : RNe E' w sh [] k es vs ls :=
 RNe.to (E := E) (E' := E') hz (fun _ _ hk => by cases hk) (fun _ hk => hk) k es vs ls h

/-- a row of one element, made of cells that may be rows: open -/
theorem Chain.buildN {P : Program} {ops : Array Oper} {o : Oper} {l : List Oper} {S : St} {Q : St → Prop} {T e : TypeId} {ti te : TI} {x : Operand} {d : Nat} {cs : List V} (sh : List (Option (TypeId × Nat))) (hw : wantedV ops S o = some true) (ho : o.op = .buildSlice T 1 #[(0, x)]) (_hdst : o.dst = some d)
  (hT : tyOf P T = some ti) (hd : ti.desc = .slice e) (he : tyOf P e = some te) (hid : d ∉ S.rts) (hc : cellsV (S.ev x) = cs) (hcell : cs.all V.cell = true) (hno : hasL d cs = false) (hlen : cs.length = te.size) (hpos : 0 < te.size) (hsmall : te.size ≤ 16777216) (hzc : te.zero.cells.size = te.size) (hzp : te.zero.cells.toList.all plain = true) (hsh : sh.length = te.size)
  (hrest : Chain false P ops l (((S.kill d).setH d (some (.nest e te.size sh [List.replicate te.size (.sl [])] [(0, cs)]))).put o.dst (.ref d 0 1)) Q) : Chain false P ops (o :: l) S Q := by
 intro fx a w Q' ⟨E, md⟩ hq
 unfold wpList
 rw [if_pos (wantedV_sound md hw)]
 refine .inl ?_
 have hz := RVs_zero (E := E) (w := w) (zc := litL te.zero) (z := te.zero.cells) (RVs_lits hzp) 1
 rw [hzc] at hz
 have hzl : (zeroL (litL te.zero) 1).length = te.size := by
  have h1 : (litL te.zero).length = te.size := by unfold litL; rw [List.length_map, Array.length_toList]; exact hzc
  simp only [zeroL, List.length_append, List.length_nil, h1]; omega
 have hfill : fillV (fun i => some (i * te.size, te.size)) (zeroL (litL te.zero) 1) [(0, S.ev x)] = some cs := by
  have hcond : (cellsV (S.ev x)).all V.cell = true ∧ (cellsV (S.ev x)).length = te.size ∧ 0 * te.size + te.size ≤ (zeroL (litL te.zero) 1).length := ⟨by rw [hc]; exact hcell, by rw [hc]; exact hlen, by rw [hzl]; omega⟩
  simp only [fillV, if_pos hcond]
  rw [hc]
  unfold setL
  simp only [Nat.zero_mul, List.take_zero, List.nil_append, Nat.zero_add]
  rw [List.drop_of_length_le (by rw [hzl, hlen]; exact Nat.le_refl _), List.append_nil]
 obtain ⟨c', k1, k2, k3⟩ := fillV_sound (ρ := a.eval) (ev := S.ev) md.ev [(0, x)] _ _ cs hz (fun y hy => by
  have : ∀ n, ∀ x ∈ zeroL (litL te.zero) n, x.cell = true := by
   intro n
   induction n with
   | zero => intro x hx; cases hx
   | succ n ih => intro x hx; rcases List.mem_append.1 hx with hx | hx; exact litL_cell x hx; exact ih x hx
  exact this _ y hy) hfill
 have u1 := run_und hT w
 rw [hd] at u1
 have hz0 : (zeroValue e).run P w = .ok te.zero w := run_zero he w
 have n1 : ¬ 16777216 < 1 * te.size := by omega
 have n2 : ¬ 1 * te.size = 0 := by omega
 have hrun : (Instr.buildSlice T 1 #[(0, a.eval x)]).run P w = .ok (.slice (some ⟨w.heap.size, 0, none⟩) 1 1) (w.alloc (.cells c' e)) := by
  simp only [Instr.buildSlice, Sem.run_bind, u1, Result.andThen_ok, run_sizeOf he w, n1, if_false, n2, Sem.run_pure, hz0]
  rw [hzc]
  simp only [List.map_cons, List.map_nil, Nat.one_mul] at k1
  simp [-Value.cells, k1, newRow]
 have hcl : c'.toList.length = te.size := by rw [RVs_length k2, hlen]
 have hg := World.grownBy_alloc w (.cells c' e) none
 have hk : Keeps E.Z w (w.alloc (.cells c' e)) := Keeps.grown md.ok hg fun b hb => by cases hb
 have hb : (w.alloc (.cells c' e)).heap[w.heap.size]? = some (.cells c' e) := by show (w.heap.push _)[w.heap.size]? = _; simp
 have m' := md.re (row := none) hid hg (fun b hb => by cases hb) ⟨w.heap.size, 0, te.size, 1, false, fun _ => False⟩ (blk := .nest e te.size sh [List.replicate te.size (.sl [])] [(0, cs)])
  ⟨by simp [Env.at], by simp [Env.at], (fun y hy => by rw [List.mem_singleton] at hy; rw [hy]; simp), hpos, hsh, (fun p hp => by rw [List.mem_singleton] at hp; rw [hp]; exact Nat.zero_lt_one), .inr ⟨by simp [Env.at], c', c'.toList, [], by simpa [Env.at] using hb, by simp [Env.at], by simp [Env.at, maxLen], by simp [Env.at, ← hcl],
   ⟨c'.toList, [], [], [], by simp, rfl, ⟨rfl, by simp [hlen], fun y hy => List.all_eq_true.1 hcell y hy, RVs.keep (E := E.at d _) (w := w) hk (fun _ h => h) rfl _ _ (RVs.upd _ _ hno k2)⟩, rfl, rfl⟩, by rw [List.length_singleton, Nat.one_mul]; exact List.take_of_length_le (by omega), List.nodup_nil, fun b hb => by cases hb⟩⟩ (fun _ => .inr (Nat.le_refl _))
 unfold Oper.wp execOp
 simp only [ho, Sem.run_bind, Sem.run_pure, Result.andThen_ok, List.map_toArray, List.map_cons, List.map_nil, hrun, Oper.upon]
 exact hrest fx _ _ Q' ⟨_, m'.put o.dst (.inr ⟨by simp [Env.at], by simp [Env.at], 0, by simp [Env.at], fun _ => by simp [Env.at]⟩)⟩ hq

/-- own rows within are put to the end of a row of such -/
theorem Chain.appN {P : Program} {ops : Array Oper} {o : Oper} {l : List Oper} {S : St} {Q : St → Prop} {c : Call} {s x : Operand} {t e : TypeId} {tt te : TI} {id k : Nat} {sh : List (Option (TypeId × Nat))} {es ys : List (List D)} (hw : wantedV ops S o = some true) (ho : o.op = .call c)
  (hc : c.callee = .builtin .append) (hca : c.args = #[s, x]) (hct : c.argTypes = #[t, t]) (hT : tyOf P t = some tt) (hd : tt.desc = .slice e) (he : tyOf P e = some te)
  (hs : S.ev s = .ref id 0 es.length) (hid : id ∉ S.rts) (hH : S.hp id = some (.nest e te.size sh es [])) (hx : S.ev x = .ref k 0 ys.length) (hkr : k ∉ S.rts) (hK : S.hp k = some (.nest e te.size sh ys [])) (hne : k ≠ id) (hy : 0 < ys.length) (hpb : 0 < te.bytes) (hzc : te.zero.cells.size = te.size)
  (hbytes : (es.length + ys.length) * te.bytes ≤ Rp.reach)
  (hrest : Chain false P ops l ((((S.kill k).kill id).setH id (some (.nest e te.size sh (es ++ ys) []))).put o.dst (.ref id 0 (es.length + ys.length))) Q) : Chain false P ops (o :: l) S Q := by
 intro fx a w Q' ⟨E, md⟩ hq
 unfold wpList
 rw [if_pos (wantedV_sound md hw)]
 refine .inl ?_
 have hsv := md.ev s
 rw [hs] at hsv
 have hxv := md.ev x
 rw [hx] at hxv
 have hi0 : S.hp id ≠ none := by rw [hH]; simp
 have hk0 : S.hp k ≠ none := by rw [hK]; simp
 obtain ⟨g1, g2, g3, g4, gs, _, g5⟩ := md.ok.hold _ _ hH
 obtain ⟨q1, q2, q3, q4, qs, _, q5⟩ := md.ok.hold _ _ hK
 obtain ⟨hu, i0, hi1, hi2, hi3, hi4⟩ := tyOf_spec he
 have htu : P.underlying t = some (.slice e) := by rw [(tyOf_spec hT).1, hd]
 rcases q5 with ⟨_, q6⟩ | ⟨qn, qc, qflat, qls, b1, b2, b3, b4, b5, b6, b7⟩
 ·rw [q6] at hy; simp at hy
 rcases hxv with ⟨z, _⟩ | ⟨_, hxc, xa, hxe, hxa⟩
 ·rw [qn] at z; cases z
 have hxa := hxa (.inl rfl)
 rw [q2, Nat.zero_mul, Nat.zero_add] at hxa
 subst hxa
 have hql : qflat.length = ys.length * te.size := RNe_length 0 ys qflat qls q3 b5
 have qcells : ∀ j u, qflat[j]? = some u → w.cell? ((⟨(E.loc k).b, 0, none⟩ : Addr).add j) = some u := rangeAt_add (arr_range b1 ⟨_, b6⟩)
 have qone : ∀ u ∈ qflat, u.oneCell' = true := RDe_cell (RNe.data (Z' := fun b => E.Z b ∨ b ∈ blks qls) (fun _ h => .inl h) 0 ys qflat qls (fun b hb => .inr hb) b5)
 -- the row before
 obtain ⟨flat, ls, hrow1, hrow2, hrow3, hrow4⟩ : ∃ flat ls, w.ownsRow 0 e te.size (a.eval s) es.length flat ∧ RNe E w sh [] 0 es flat ls ∧ NDis (E.loc id) ls ∧ (∀ b, (a.eval s).ownBlock = some b → (E.loc id).nil = false ∧ (E.loc id).b = b) := by
  rcases hsv with ⟨h1, _, h3, h4⟩ | ⟨h1, h2, aa, h3, h4⟩
  ·rcases g5 with ⟨_, g6⟩ | ⟨gn, _⟩
   ·subst g6
    refine ⟨[], [], by rw [h4]; exact World.ownsRow_nil _ _ _ _, ⟨rfl, rfl⟩, ⟨List.nodup_nil, fun b hb => by cases hb⟩, fun b hb => ?_⟩
    rw [h4] at hb; cases hb
   ·rw [h1] at gn; cases gn
  ·rcases g5 with ⟨g6, _⟩ | ⟨_, c0, flat, ls, k1, k2, k3, k4, k5, k6, k7⟩
   ·rw [h1] at g6; cases g6
   ·have ha := h4 (.inl rfl)
    rw [g2] at ha
    simp only [Nat.zero_mul, Nat.add_zero, Nat.sub_zero] at ha h3
    subst ha
    rw [h3]
    exact ⟨flat, ls, ⟨RNe_length 0 es flat ls g3 k5, .inr ⟨_, _, c0, rfl, Nat.zero_le _, k1, k2, k3, k4, k6⟩⟩, k5, k7, fun b hb => ⟨h1, by injection hb⟩⟩
 obtain ⟨u, w', hrun, n1, n2, n3⟩ := run_append_where (P := P) w 0 t o.type e i0 te.zero te.size te.bytes htu hi1 hi4 hi2 hi3 hzc g4 (a.eval s) es.length flat hrow1 ⟨(E.loc k).b, 0, none⟩ ys.length ((E.loc k).cap) qflat
  hql qcells qone hbytes hpb (Nat.zero_le _)
 have hz : ∀ b, (a.eval s).ownBlock = some b → ¬ E.Z b := fun b hb => by
  obtain ⟨h2, h3⟩ := hrow4 b hb
  rw [← h3]; exact md.ok.apart1 id hi0 h2
 have hkp : Keeps E.Z w w' := Keeps.grown md.ok n2 hz
 have hin : ∀ b ∈ blks (ls ++ qls), w'.heap[b]? = w.heap[b]? := fun b hb => by
  rw [blks_append] at hb
  rcases List.mem_append.1 hb with hb | hb
  ·obtain ⟨p1, p2⟩ := hrow3.2 b hb
   exact n2.block b (md.ok.xlt id hi0 b p1) (fun e => by
    obtain ⟨r1, r2⟩ := hrow4 b e.symm
    exact p2 r1 r2)
  ·obtain ⟨p1, p2⟩ := b7.2 b hb
   exact n2.block b (md.ok.xlt k hk0 b p1) (fun e => by
    obtain ⟨r1, r2⟩ := hrow4 b e.symm
    exact md.ok.inj k id hk0 hi0 hne b (.inr p1) (.inl ⟨r1, r2⟩))
 have hcat := RNe_app 0 es ys flat qflat ls qls hrow2 b5
 have hall : ∀ y ∈ es ++ ys, y.length = te.size := fun y hy => (List.mem_append.1 hy).elim (g3 y) (q3 y)
 rcases n1.2 with ⟨_, h0⟩ | ⟨g, cap, cur, hu', _, hgc, hnc, hcm, hcs, htake⟩
 ·omega
 subst hu'
 have hgw : (w.heap.size ≤ g ∨ ((E.loc id).nil = false ∧ (E.loc id).b = g)) := by
  rcases n3 with h | ⟨g', h, hle⟩
  ·exact .inr (hrow4 g h.symm)
  ·exact .inl (by rw [show g = g' by injection h]; exact hle)
 have hglt : g < w'.heap.size := (Array.getElem?_eq_some_iff.1 hgc).1
 have m1 := md.kill (id := k) hkr (E.loc k)
 rw [at_same] at m1
 have hkhp : ∀ i, i ≠ k → S.hp i ≠ none → (S.kill k).hp i ≠ none := fun i hi h => by
  simp only [St.kill, if_neg hi]
  cases hh : S.hp i with
  | none => exact absurd hh h
  | some b => simp
 have hkhp2 : ∀ i, (S.kill k).hp i ≠ none → i ≠ k ∧ S.hp i ≠ none := fun i h => by
  cases hh : (S.kill k).hp i with
  | none => exact absurd hh h
  | some b => obtain ⟨x1, k0, x2, _⟩ := kill_hp hh; exact ⟨x1, by rw [x2]; simp⟩
 have m2 := m1.re0 (id := id) (w' := w') hid n2 (fun b hb => ⟨hkhp id (Ne.symm hne) hi0, .inl (hrow4 b hb)⟩) ⟨g, 0, te.size, cap, false, fun b => (E.loc id).xs b ∨ (E.loc k).xs b⟩ (blk := .nest e te.size sh (es ++ ys) [])
  ⟨by simp [Env.at], by simp [Env.at], hall, g4, gs, (fun p hp => by cases hp), .inr ⟨by simp [Env.at], cur, flat ++ qflat, ls ++ qls, by simpa [Env.at] using hgc, by simpa [Env.at] using hnc, by simpa [Env.at] using hcm, by simpa [Env.at] using hcs,
   RNe.upd 0 _ _ _ (RNe.keep (E' := E) hkp (fun _ h => h) rfl 0 _ _ _ hin hcat), by rw [List.length_append]; exact htake, by
    rw [blks_append]
    refine List.nodup_append.2 ⟨hrow3.1, b7.1, fun x hx y hy e => ?_⟩
    subst e
    exact md.ok.inj id k hi0 hk0 (Ne.symm hne) x (.inr (hrow3.2 x hx).1) (.inr (b7.2 x hy).1), fun b hb => by
    rw [blks_append] at hb
    simp only [Env.at, if_true]
    rcases List.mem_append.1 hb with hb | hb
    ·obtain ⟨p1, p2⟩ := hrow3.2 b hb
     refine ⟨.inl p1, fun _ e => ?_⟩
     rcases hgw with h | ⟨r1, r2⟩
     ·have := md.ok.xlt id hi0 b p1; omega
     ·exact p2 r1 (r2.trans e)
    ·obtain ⟨p1, p2⟩ := b7.2 b hb
     refine ⟨.inr p1, fun _ e => ?_⟩
     rcases hgw with h | ⟨r1, r2⟩
     ·have := md.ok.xlt k hk0 b p1; omega
     ·exact md.ok.inj k id hk0 hi0 hne b (.inr p1) (.inl ⟨r1, r2.trans e⟩)⟩⟩ (fun b hb => by
   have fromId : (E.loc id).own b → (fx.w0.heap.size ≤ b ∨ fx.L b) ∧ ¬ E.Z b ∧ b < w'.heap.size ∧ ∀ i, i ≠ id → (S.kill k).hp i ≠ none → ¬ (E.loc i).own b := fun ho =>
    ⟨md.mine id hi0 b ho, md.ok.apart id hi0 b ho, Nat.lt_of_lt_of_le (md.ok.own_lt hi0 ho) n2.size, fun i hi hh hb => md.ok.inj i id (hkhp2 i hh).2 hi0 hi b hb ho⟩
   rcases hb with ⟨_, rfl⟩ | hb | hb
   ·rcases hgw with h | h
    ·exact ⟨.inl (Nat.le_trans md.frame.size h), fun hz => by have := md.ok.zlt _ hz; simp only at this; omega, hglt, fun i hi hh hb => by have := md.ok.own_lt (hkhp2 i hh).2 hb; simp only at this; omega⟩
    ·exact fromId (.inl h)
   ·exact fromId (.inr hb)
   ·exact ⟨md.mine k hk0 b (.inr hb), md.ok.apart k hk0 b (.inr hb), Nat.lt_of_lt_of_le (md.ok.xlt k hk0 b hb) n2.size, fun i hi hh ho => md.ok.inj i k (hkhp2 i hh).2 hk0 (hkhp2 i hh).1 b ho (.inr hb)⟩)
 unfold Oper.wp execOp
 simp only [ho, resolve, hc, hca, hct, invoke, builtin, Sem.run_bind, Sem.run_pure, Result.andThen_ok, List.map_toArray, List.map_cons, List.map_nil, hxe, Nat.sub_zero, hrun, Oper.upon]
 exact hrest fx _ _ Q' ⟨_, m2.put o.dst (.inr ⟨by simp [Env.at], by simpa [Env.at] using hnc, 0, by simp [Env.at], fun _ => by simp [Env.at]⟩)⟩ hq

end Go.Ab
end
