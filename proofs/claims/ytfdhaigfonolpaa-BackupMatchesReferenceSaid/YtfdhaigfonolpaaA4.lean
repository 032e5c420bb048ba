/- The abstract machine: one of the rows within an own row is opened, and closed. The abstract machine: rows of rows, as the printed texts use them. The abstract machine: rows of rows are built and put together. The abstract machine: nil slices in boxes as rows without elements. The abstract machine: the library's sort of strings on an own row. The abstract machine: looks through rows within rows, nil tests of own rows, ranges over maps. The abstract machine: append of a row near the bound (growslice's own). The abstract machine: a string's bytes as data. The abstract machine: ranges over maps whose outcome may be told only up to an order. The abstract machine: the rule of a range over slices.Chunk's function. The abstract machine: copy from data into a part of an own row. The abstract machine: boxes of many cells under other names. The abstract machine: a word of a box forgotten; functions whose result is one of several. The abstract machine: joins whose state hides how a row lies; appends to such a row. -/
import Derived.Test.YtfdhaigfonolpaaA3
import Derived.Maps.RangeRun
import Derived.Sort.LoopGhostIn
import Derived.Deep.DeepAppendWide
import Derived.Laws.IdiomStrings
import Derived.Lib.Bytealg
import Derived.Laws.CopyRow
import Derived.Laws.IdiomCopy
section
namespace Go.Ab
open Go.RowKit
def openE : List (Option (TypeId × Nat)) → List D → List Nat → Option (List V × List (Nat × Blk))
 | [], [], [] => some ([], [])
 | none :: sh, d :: ds, is => (openE sh ds is).map fun p => (.d d :: p.1, p.2)
 | some (T, n) :: sh, .sl es :: ds, k :: is => (openE sh ds is).map fun p => (.ref k 0 es.length :: p.1, (k, .arr T n es) :: p.2)
 | _, _, _ => none
def laysK : List (Nat × Blk) → St → St
 | [], S => S
 | (k, b) :: r, S => laysK r ((S.kill k).setH k (some b))
def closeE (H : Heap) : List (Option (TypeId × Nat)) → List V → Option (List D × List Nat)
 | [], [] => some ([], [])
 | none :: sh, .d d :: cs => (closeE H sh cs).map fun p => (d :: p.1, p.2)
 | some (T, n) :: sh, .ref k off len :: cs => match H k with
  | some (.arr T' n' es) => if off = 0 ∧ T' = T ∧ n' = n ∧ len = es.length then (closeE H sh cs).map fun p => (.sl es :: p.1, k :: p.2) else none
  | _ => none
 | some (_, n) :: sh, .d d :: cs => if isNilD d = true ∧ 0 < n then (closeE H sh cs).map fun p => (.sl [] :: p.1, p.2) else none
 | _, _ => none
def kills : List Nat → St → St
 | [], S => S
 | k :: r, S => kills r (S.kill k)
attribute [simp] openE closeE laysK kills flook fset nz isNilD
end Go.Ab
end
section
namespace Go.Ab
open Go.RowKit
end Go.Ab
end
section
namespace Go.Ab
open Go.RowKit
end Go.Ab
end
section
namespace Go.Ab
open Go.RowKit
theorem Sub.wkCell {S : St} {bid j : Nat} {cs : List V} (hcs : S.hp bid = some (.box cs)) (hj : cs[j]? = some (.d (.lit (.slice none 0 0)))) : Sub S (S.setH bid (some (.box (cs.set j (.d (.sl [])))))) := .of fun fx a w E m => by
 obtain ⟨hnil, h1, vs, h2, h3, h4, h5⟩ := m.ok.hold bid _ hcs
 obtain ⟨v, hv, hrv⟩ := RVs_get h2 hj
 have hvn : v = .slice none 0 0 := RD_lit hrv
 subst hvn
 refine ⟨_, m.wr (id := bid) (k0 := .box cs) hcs hnil ⟨rfl, rfl, rfl, Nat.le_refl _, fun _ _ _ => rfl⟩ ⟨hnil, fun c hc => ?_, vs, RVs_setAt h2 hv ⟨none, 0, rfl, Nat.le_refl _, Nat.zero_le _, fun _ => rfl, fun h => absurd rfl h⟩, h3, h4, h5⟩⟩
 rcases List.mem_or_eq_of_mem_set hc with hc | rfl
 ·exact h1 c hc
 ·rfl
end Go.Ab
end
section
namespace Go.Ab
open Go.RowKit Go.Sort
end Go.Ab
end
section
namespace Go.Ab
open Go.RowKit
theorem Chain.eqNilRef {q : Bool} {P : Program} {ops : Array Oper} {o : Oper} {l : List Oper} {S : St} {Q : St → Prop} {T T' e : TypeId} {ti : TI} {x y : Operand} {id off len : Nat} (hw : wantedV ops S o = some true) (ho : o.op = .binOp .eql T x y T')
  (hT : tyOf P T = some ti) (hd : ti.desc = .slice e) (hx : S.ev x = .ref id off len) (hy : S.ev y = .d (.lit (.slice none 0 0)))
  (h : ∀ b : Bool, (len ≠ 0 → b = false) → Chain q P ops l (S.put o.dst (.d (.lit (.bool b)))) Q) : Chain q P ops (o :: l) S Q := by
 have go : ∀ fx a w E, Mod fx S E a w → ∃ b : Bool, (len ≠ 0 → b = false) ∧ ∀ w', (execOp a.eval o).run P w' = .ok (.value (.bool b)) w' := by
  intro fx a w E m
  have h1 := m.ev x
  rw [hx] at h1
  obtain ⟨A, cap, hv, h3⟩ : ∃ A cap, a.eval x = .slice A len cap ∧ (len ≠ 0 → A.isNone = false) := by
   rcases h1 with ⟨_, _, hl, h⟩ | ⟨_, _, a, h, _⟩
   ·exact ⟨none, 0, by rw [h, hl], fun h => absurd hl h⟩
   ·exact ⟨_, _, h, fun _ => rfl⟩
  have h4 := m.ev y
  rw [hy] at h4
  have h4 : a.eval y = _ := h4.1
  refine ⟨A.isNone, h3, fun w' => ?_⟩
  unfold execOp
  rw [ho]
  have hu := run_und hT w'
  rw [hd] at hu
  simp only [hv, h4]
  have := (run_eq_of (P := P) (T := T) (x := .slice A len cap) (y := .slice none 0 0) (r := A.isNone) (w := w') (equal_of fun d => by cases A <;> simp [Op.equalIn, hu]) x y ⟨rfl, rfl⟩ ⟨rfl, rfl⟩).1
  have hgd : (eqGuard .eql T x y (.slice A len cap) (.slice none 0 0)).run P w' = .ok () w' := rfl
  rw [Sem.run_bind, hgd] at this
  simp only [Result.andThen_ok] at this
  simp [Sem.run_bind, hgd, this]
 cases q with
 | false =>
  intro fx a w Q' ⟨E, m⟩ hq
  have hw' := wantedV_sound m hw
  obtain ⟨b, hb, hrun⟩ := go fx a w E m
  unfold wpList
  rw [if_pos hw']
  refine .inl ?_
  unfold Oper.wp
  rw [hrun w]
  exact h b hb fx _ w Q' ⟨E, m.put o.dst ⟨rfl, rfl⟩⟩ hq
 | true =>
  intro fx a w Q' ⟨E, m⟩ hq
  have hw' := wantedV_sound m hw
  obtain ⟨b, hb, hrun⟩ := go fx a w E m
  unfold wpQuiet
  rw [if_pos hw']
  refine ⟨.bool b, fun w' hg => ?_, h b hb fx _ w Q' ⟨E, m.put o.dst ⟨rfl, rfl⟩⟩ hq⟩
  unfold Oper.quietAt
  rw [hrun w']
  exact ⟨rfl, rfl⟩
open Classical in
noncomputable def rangeM {κ β ρ : Type} (f : κ → β → Option (Out β ρ)) (l : List κ) (b : β) : Option (Out β ρ) :=
 if ∀ l', List.Perm l' l → rangeL f l' b = rangeL f l b then rangeL f l b else none
theorem rangeM_some {κ β ρ : Type} {f : κ → β → Option (Out β ρ)} {l : List κ} {b : β} {o : Out β ρ} (h : rangeM f l b = some o) : ∀ l', List.Perm l' l → rangeL f l' b = some o := by
 unfold rangeM at h
 split at h
 ·rename_i hp
  exact fun l' hl => (hp l' hl).trans h
 ·cases h
theorem rangeM_of {κ β ρ : Type} {f : κ → β → Option (Out β ρ)} {l : List κ} {b : β} {o : Out β ρ} (h : ∀ l', List.Perm l' l → rangeL f l' b = some o) : rangeM f l b = some o := by
 unfold rangeM
 rw [if_pos (fun l' hl => (h l' hl).trans (h l (List.Perm.refl l)).symm)]
 exact h l (List.Perm.refl l)
def Rel2 {α β : Type} (R : α → β → Prop) : List α → List β → Prop
 | [], [] => True
 | a :: xs, b :: bs => R a b ∧ Rel2 R xs bs
 | _, _ => False
theorem Rel2.split {α β : Type} {R : α → β → Prop} {e : β} {b2 : List β} : ∀ {b1 : List β} {xs : List α}, Rel2 R xs (b1 ++ e :: b2) → ∃ a1 x a2, xs = a1 ++ x :: a2 ∧ Rel2 R a1 b1 ∧ R x e ∧ Rel2 R a2 b2
 | [], a :: xs, ⟨h1, h2⟩ => ⟨[], a, xs, rfl, trivial, h1, h2⟩
 | b :: b1, a :: xs, ⟨h1, h2⟩ => by
  obtain ⟨a1, x, a2, rfl, g1, g2, g3⟩ := Rel2.split h2
  exact ⟨a :: a1, x, a2, rfl, ⟨h1, g1⟩, g2, g3⟩
 | [], [], h => h.elim
 | _ :: _, [], h => h.elim
theorem Rel2.app {α β : Type} {R : α → β → Prop} {a2 : List α} {b2 : List β} (h2 : Rel2 R a2 b2) : ∀ {a1 : List α} {b1 : List β}, Rel2 R a1 b1 → Rel2 R (a1 ++ a2) (b1 ++ b2)
 | [], [], _ => h2
 | _ :: _, _ :: _, ⟨h, g⟩ => ⟨h, Rel2.app h2 g⟩
 | [], _ :: _, h => h.elim
 | _ :: _, [], h => h.elim
theorem Rel2.perm {α β : Type} {R : α → β → Prop} {b1 b2 : List β} (h : b1.Perm b2) : ∀ {xs : List α}, Rel2 R xs b1 → ∃ ys, ys.Perm xs ∧ Rel2 R ys b2 := by
 induction h with
 | nil => exact fun {xs} h => ⟨xs, .refl _, h⟩
 | cons b _ ih =>
  intro xs h
  match xs, h with
  | x :: xs, ⟨h1, h2⟩ =>
   obtain ⟨ys, p, h3⟩ := ih h2
   exact ⟨x :: ys, .cons _ p, h1, h3⟩
 | swap a b r =>
  intro xs h
  match xs, h with
  | x :: y :: xs, ⟨h1, h2, h3⟩ => exact ⟨y :: x :: xs, .swap _ _ _, h2, h1, h3⟩
  | [_], ⟨_, h⟩ => exact h.elim
 | trans _ _ ih1 ih2 =>
  intro xs h
  obtain ⟨y1, p1, h1⟩ := ih1 h
  obtain ⟨y2, p2, h2⟩ := ih2 h1
  exact ⟨y2, p2.trans p1, h2⟩
theorem Rel2.nil {α β : Type} {R : α → β → Prop} {xs : List α} (h : Rel2 R xs []) : xs = [] := by
 cases xs with
 | nil => rfl
 | cons a xs => exact h.elim
def mvalV (ag : Bool) (cs : List D) : V := if ag then .agg (cs.map .d) else match cs with
 | [c] => .d c
 | _ => .junk
@[simp] theorem mvalV_true (cs : List D) : mvalV true cs = .agg (cs.map .d) := rfl
@[simp] theorem mvalV_one (c : D) : mvalV false [c] = .d c := rfl
def MEnt {κ : Type} (w : World) (Z : Nat → Prop) (ag : Bool) (kf : κ → MKey) (vf : κ → List D) (x : κ) (e : MapEntry) : Prop :=
 e.key = (kf x).enc ∧ ∃ cs, RDs w Z (vf x) cs ∧ (if ag = true then e.val = .agg cs.toArray else cs = [e.val])
theorem MEnt.val {κ : Type} {w w' : World} {Z : Nat → Prop} {ag : Bool} {kf : κ → MKey} {vf : κ → List D} {x : κ} {e : MapEntry} (h : MEnt w Z ag kf vf x e) (hk : Keeps Z w w') {E : Env} (hz : ∀ b, Z b → E.Z b) :
  RV E w' (.tup [.d (.lit (kf x).enc), mvalV ag (vf x)]) (.tuple #[e.key, e.val]) := by
 obtain ⟨h1, cs, h2, h3⟩ := h
 refine ⟨[e.key, e.val], rfl, _, _, rfl, ⟨h1, by cases kf x <;> rfl⟩, _, _, rfl, ?_, rfl⟩
 have h2 := RDs.keep hk hz _ _ h2
 unfold mvalV
 cases ag with
 | true =>
  rw [if_pos rfl] at h3
  rw [if_pos rfl, h3]
  exact ⟨cs, rfl, fun c hc => by obtain ⟨y, _, rfl⟩ := List.mem_map.1 hc; rfl, RVs_d.2 h2⟩
 | false =>
  rw [if_neg (by simp)] at h3
  rw [if_neg (by simp)]
  subst h3
  split
  ·rename_i c hc
   rw [hc] at h2
   obtain ⟨v, r, e1, e2, e3⟩ := h2
   injection e1 with e1 _
   subst e1
   exact e2
  ·trivial
theorem Rel2.of_map {κ : Type} {w : World} {Z : Nat → Prop} {ag : Bool} {kf : κ → MKey} {vf : κ → List D} : ∀ {m : List κ} {es : List MapEntry}, es.map (·.key) = (m.map kf).map MKey.enc → RDx w Z ag (m.map vf) (es.map (·.val)) → Rel2 (MEnt w Z ag kf vf) m es
 | [], [], _, _ => True.intro
 | [], e :: es, h, _ => by cases h
 | x :: m, [], h, _ => by cases h
 | x :: m, e :: es, h, h2 => by
  simp only [List.map_cons, List.cons.injEq] at h
  obtain ⟨v, cs, r, e1, e2, e3, e4⟩ := h2
  injection e1 with e1 e5
  subst e1; subst e5
  exact ⟨⟨h.1, cs, e2, e3⟩, Rel2.of_map h.2 e4⟩
def itv (r : Nat) : Value := .pointer (some ⟨r, 0, none⟩)
def PostR2 {β ρ : Type} (J : β → St) (rr : ρ) (Q : Exit → St → Prop) : Out β ρ → Exit → St → Prop
 | .go b, e, S => e = .normal ∧ Sub S (J b)
 | .ret r', e, S => e = .ret ∧ (r' = rr → Q e S)
theorem Aft.blockIn {P : Program} {fx : Fx} {F : Fence} {n id : Nat} {c : Code} {Q : Exit → St → Prop} {a : Act} {w : World} (h : c.wpIn F n P (Aft fx (blockQ id Q)) a w) : (Code.block id c).wpIn F n P (Aft fx Q) a w := by
 refine wpIn_block (Code.wpIn_mono ?_ h)
 rintro e a' w' ⟨S', fx', hq, hx, m'⟩
 cases e with
 | exit id' =>
  simp only [blockQ] at hq
  simp only [Exit.inBlock]
  split
  ·rename_i h; rw [if_pos h] at hq; exact ⟨S', fx', hq, hx, m'⟩
  ·rename_i h; rw [if_neg h] at hq; exact ⟨S', fx', hq, hx, m'⟩
 | normal => exact ⟨S', fx', hq, hx, m'⟩
 | goto l => exact ⟨S', fx', hq, hx, m'⟩
 | ret => exact ⟨S', fx', hq, hx, m'⟩
 | panic ch => exact ⟨S', fx', hq, hx, m'⟩
 | outgrown => exact ⟨S', fx', hq, hx, m'⟩
theorem Mod.putJ {fx : Fx} {S : St} {E : Env} {a : Act} {w : World} (m : Mod fx S E a w) {t : Nat} (h : S.sl t = .junk) (x : Value) : Mod fx S E (a.put (some t) x) w := by
 refine ⟨by simp [Act.put, m.nt], fun i => ?_, m.dfr, m.ok, m.frame, m.mine, m.z, m.roots⟩
 rw [getD_put]
 by_cases hc : i = t ∧ t < a.tmps.size
 ·rw [if_pos hc, hc.1, h]; trivial
 ·rw [if_neg hc]; exact m.slots i
structure MapAt {κ β ρ : Type} (fx : Fx) (J : Nat → β → St) (R : κ → MapEntry → Prop) (f : κ → β → Option (Out β ρ)) (K : Out β ρ → Prop) (r bm clock : Nat) (es : Array MapEntry) (Zm : Nat → Prop) (w1 : World) (left : List κ) (b : β) (seen : Array Nat) (c0 : Nat) (E : Env) (fx' : Fx) (a : Act) (w : World) : Prop where
 ext : Ext fx fx'
 mod : Mod fx' (J r b) E a w
 iter : w.heap[r]? = some (.mapIter (some bm) clock seen c0)
 late : clock ≤ c0
 free : Free (J r b).hp E r
 zown : ∀ z, Zm z → ∀ i, (J r b).hp i ≠ none → ¬ (E.loc i).own z
 keep : ∀ z, Zm z → w.heap[z]? = w1.heap[z]?
 zlt : ∀ z, Zm z → z < w.heap.size
 zfx : ∀ z, Zm z → fx.Z0 z ∨ fx.w0.heap.size ≤ z ∨ fx.L z
 dz : ∃ l : List Nat, fx'.dfr = l.map coll ++ fx.dfr ∧ ∀ D ∈ l, ¬ Zm D
 rel : Rel2 R left (es.toList.filter fun e => !seen.contains e.born)
 all : ∀ l', List.Perm l' left → ∃ o', rangeL f l' b = some o' ∧ K o'
 rz : ¬ Zm r
 rfx : fx.w0.heap.size ≤ r
theorem coll_inj : ∀ {l l' : List Nat}, l.map coll = l'.map coll → l = l'
 | [], [], _ => rfl
 | [], _ :: _, h => by cases h
 | _ :: _, [], h => by cases h
 | a :: l, b :: l', h => by
  simp only [List.map_cons, List.cons.injEq] at h
  obtain ⟨h1, h2⟩ := h
  have : a = b := by
   unfold coll at h1
   injection h1 with h1
   injection h1
  rw [this, coll_inj h2]
theorem MapAt.start {κ β ρ : Type} {fx : Fx} {J : Nat → β → St} {R : κ → MapEntry → Prop} {f : κ → β → Option (Out β ρ)} {K : Out β ρ → Prop} {r bm clock : Nat} {es : Array MapEntry} {Zm : Nat → Prop} {w1 : World} {left : List κ} {b : β} {seen : Array Nat} {c0 : Nat} {E : Env} {fx' : Fx} {a : Act} {w : World}
  (h : MapAt fx J R f K r bm clock es Zm w1 left b seen c0 E fx' a w) {w' : World} (hw : w' = w ∨ w' = w.drew) (ob : Obj) :
  ∃ fxn : Fx, fxn.ro = fx.ro ∧ Ext fx fxn ∧ Mod fxn (J r b) (E.more Zm) a (w'.putObj r ob) ∧ fxn.w0 = w'.putObj r ob ∧ (∀ D, fxn.L D → lof E (J r b).hp D) ∧ (∀ D, fxn.Z0 D → E.Z D ∨ Zm D) ∧ (∃ l : List Nat, fxn.dfr = l.map coll ++ fx.dfr ∧ ∀ D ∈ l, ¬ Zm D) := by
 have hg : Grow w w' := by
  rcases hw with rfl | rfl
  ·exact .refl _ _
  ·exact ⟨rfl, rfl, rfl, Nat.le_refl _, fun _ _ => rfl⟩
 have hheap : w'.heap = w.heap := by rcases hw with rfl | rfl <;> rfl
 have m1 := h.mod.grow hg
 have hsz : (w'.putObj r ob).heap.size = w.heap.size := by rw [World.putObj_size, hheap]
 have m2 : Mod fx' (J r b) (E.more Zm) a w' → True := fun _ => trivial
 have hrec : ∀ l, fx.ro = some l → Free (J r b).hp (E.more Zm) l ∧ ∃ q, (w'.putObj r ob).heap[l]? = some (.loop q) := fun l hl => by
  have hl' : fx'.ro = some l := by rw [h.ext.ro]; exact hl
  obtain ⟨h1, h2, h3, q, h4⟩ := fx'.lrec l hl'
  obtain ⟨g1, g2⟩ := h.mod.apart h1 h2 h3
  have hw4 : w.heap[l]? = some (.loop q) := (h.mod.frame.block l h1 h2).trans h4
  have hne : l ≠ r := fun e => by rw [e, h.iter] at hw4; cases hw4
  refine ⟨⟨g1, fun hz => ?_⟩, q, by rw [World.putObj_heap_other hne, hheap]; exact hw4⟩
  rcases hz with hz | hz
  ·exact g2 hz
  ·obtain ⟨k1, k2, k3, _⟩ := fx.lrec l hl
   rcases h.zfx l hz with g | g | g
   ·exact k3 g
   ·omega
   ·exact k2 g
 have hgo : GO (E.more Zm) (J r b).hp (w'.putObj r ob) := by
  have g := m1.go
  have hgr : gN ≤ r := Nat.le_trans fx.gw.lt h.rfx
  exact ⟨g.gw.keep (fun b hb => World.putObj_heap_other (by omega)) (by rw [World.putObj_size]; exact Nat.le_refl _), g.own⟩
 have hk : Keeps E.Z w' (w'.putObj r ob) := fun z hz => World.putObj_heap_other (fun e => h.free.2 (e ▸ hz))
 have ok : (E.more Zm).ok (J r b).hp (w'.putObj r ob) := by
  refine ⟨fun id k hk' => ?_, m1.ok.inj, fun i hi z hn hz => ?_, fun z hz => ?_, fun i hi z hb => by rw [World.putObj_size]; exact m1.ok.xlt i hi z hb⟩
  ·exact (m1.ok.hold id k hk').keep (E' := E.more Zm) hk (fun _ h => .inl h) rfl (fun z hn => World.putObj_heap_other (fun e => h.free.1 id (by rw [hk']; simp) (e ▸ hn))) (by rw [World.putObj_size]; exact Nat.le_refl _)
  ·rcases hz with hz | hz
   ·exact m1.ok.apart i hi z hn hz
   ·exact h.zown z hz i hi hn
  ·rcases hz with hz | hz
   ·rw [World.putObj_size]; exact m1.ok.zlt z hz
   ·rw [hsz]; exact h.zlt z hz
 refine ⟨Fx.now (w'.putObj r ob) (E.more Zm) (J r b).hp fx.roots fx'.dfr fx.ro hrec hgo, rfl, ⟨rfl, ?_, fun z ⟨i, hi, hn⟩ => h.ext.mine2 (h.mod.mine i hi z hn), fun z hz => ?_, rfl, ?_⟩, ⟨m1.nt, fun t => RV.keep (E' := E.more Zm) hk (fun _ h => Or.inl h) rfl _ _ (m1.slots t), m1.dfr, ok, ⟨rfl, rfl, rfl, Nat.le_refl _, fun _ _ _ => rfl⟩, fun i hi z hn => .inr ⟨i, hi, hn⟩, fun _ h => .inl h, fun q hq => m1.roots q (by rw [h.ext.roots]; exact hq)⟩, rfl, fun _ h => h, fun _ h => h, h.dz⟩
 ·have fr : fx.frame w := h.mod.frame.back h.ext
  refine ⟨by show w'.os = _; rcases hw with rfl | rfl <;> exact fr.os, by show w'.tape = _; rcases hw with rfl | rfl <;> exact fr.tape, by show w'.output = _; rcases hw with rfl | rfl <;> exact fr.output, by rw [show (Fx.now (w'.putObj r ob) (E.more Zm) (J r b).hp fx.roots fx'.dfr fx.ro hrec hgo).w0 = w'.putObj r ob from rfl, hsz]; exact fr.size, fun z hz hl => ?_⟩
  have hne : z ≠ r := by have := h.rfx; omega
  show (w'.putObj r ob).heap[z]? = _
  rw [World.putObj_heap_other hne, hheap]
  exact fr.block z hz hl
 ·rcases hz with hz | hz
  ·exact h.ext.z2 (h.mod.z z hz)
  ·exact h.zfx z hz
 ·obtain ⟨l, hl, hn, hD⟩ := h.ext.dfr
  obtain ⟨l', hl', hz⟩ := h.dz
  have hll : l = l' := coll_inj (List.append_cancel_right (hl.symm.trans hl'))
  subst hll
  refine ⟨l, hl, hn, fun D hd => ?_⟩
  obtain ⟨k1, k2, k3, k4, k5⟩ := hD D hd
  have hwD : w.heap[D]? = some (.deferred (some [])) := (h.mod.frame.block D k2 k5).trans k3
  have hne : D ≠ r := fun e => by rw [e, h.iter] at hwD; cases hwD
  obtain ⟨g1, g2⟩ := h.mod.apart k2 k5 k4
  refine ⟨k1, ?_, ?_, fun hz' => ?_, fun ⟨i, hi, hn'⟩ => g1 i hi hn'⟩
  ·show D < (w'.putObj r ob).heap.size
   rw [hsz]; exact (Array.getElem?_eq_some_iff.1 hwD).1
  ·show (w'.putObj r ob).heap[D]? = _
   rw [World.putObj_heap_other hne, hheap]; exact hwD
  ·rcases hz' with hz' | hz'
   ·exact g2 hz'
   ·exact hz D hd hz'
theorem Oper.wp_nq {P : Program} {o : Oper} {a : Act} {w : World} {K K' X X' : Act → World → Prop} (hK : ∀ a w, K a w → K' a w) (h : o.wp P a w K (NQ X)) : o.wp P a w K' (NQ X') := by
 unfold Oper.wp at h ⊢
 generalize (execOp a.eval o).run P w = r at *
 cases r with
 | ok x w' =>
  cases x <;> simp only [Oper.upon] at h ⊢ <;>
   first
    | exact hK _ _ h
    | exact absurd h.1 (by simp)
    | exact h
    | exact h.mono (fun v w'' he => hK _ _ he)
    | exact h.mono (fun e w'' he => by
      cases e with
      | returned v => exact hK _ _ he
      | panicked c => exact absurd he.1 (by simp)
      | outgrown => exact absurd he NQ.keep)
 | halt x w' => cases x <;> simp only [Oper.upon] at h ⊢ <;> first | exact absurd h.1 (by simp) | exact h
theorem wpList_app {P : Program} {ops : Array Oper} {K : Act → World → Prop} {l2 : List Oper} : ∀ {l1 : List Oper} {a : Act} {w : World}, wpList P ops (NQ fun a w => wpList P ops (NQ K) l2 a w) l1 a w → wpList P ops (NQ K) (l1 ++ l2) a w
 | [], _, _, h => h.2
 | o :: l1, a, w, h => by
  rw [List.cons_append]
  unfold wpList at h ⊢
  split
  ·rename_i hw
   rw [if_pos hw] at h
   rcases h with h | h
   ·exact .inl (Oper.wp_nq (fun a' w' h => wpList_app h) h)
   ·exact absurd h.2 NQ.keep
  ·rename_i hw
   rw [if_neg hw] at h
   exact wpList_app h
theorem left_cut {es : List MapEntry} {seen : Array Nat} {L1 L2 : List MapEntry} {e : MapEntry} (hn : (es.map (·.born)).Nodup) (h : (es.filter fun e => !seen.contains e.born) = L1 ++ e :: L2) : (es.filter fun x => !(seen.push e.born).contains x.born) = L1 ++ L2 := by
 have h1 : (es.filter fun x => !(seen.push e.born).contains x.born) = (es.filter fun x => !seen.contains x.born).filter fun x => x.born != e.born := by
  rw [List.filter_filter]
  congr 1
  funext x
  simp only [Array.contains_push]
  unfold bne
  cases seen.contains x.born <;> cases (x.born == e.born) <;> rfl
 have hd : ((L1 ++ e :: L2).map (·.born)).Nodup := by
  rw [← h]
  exact hn.sublist ((List.filter_sublist).map _)
 rw [h1, h, List.filter_append, List.filter_cons]
 simp only [bne_self_eq_false, Bool.false_eq_true, if_false]
 rw [List.map_append, List.map_cons, List.nodup_append] at hd
 obtain ⟨_, d2, d3⟩ := hd
 rw [List.nodup_cons] at d2
 have f1 : L1.filter (fun x => x.born != e.born) = L1 := List.filter_eq_self.2 fun x hx => by
  simpa using d3 _ (List.mem_map.2 ⟨x, hx, rfl⟩) _ (.head _)
 have f2 : L2.filter (fun x => x.born != e.born) = L2 := List.filter_eq_self.2 fun x hx => by
  have : ¬ x.born = e.born := fun he => d2.1 (he ▸ List.mem_map.2 ⟨x, hx, rfl⟩)
  simpa using this
 rw [f1, f2]
theorem run_next_nil {P : Program} (w : World) (ty : TypeId) (r a b : Nat) (s : Array Nat) (h : w.heap[r]? = some (.mapIter none a s b)) : (Instr.next (.pointer (some ⟨r, 0, none⟩)) false ty).run P w = .ok (.tuple #[.bool false]) w := by
 simp only [Instr.next, getObj, Sem.run_bind, Sem.run, h, Result.andThen]
 rfl
theorem AW.mapL {P : Program} {κ β ρ : Type} {i0 i1 i2 B B2 : Nat} {lr : List Oper} {og on ox oe : Oper} {l2 : List Oper} {rest : Code} {S : St} {t k e : TypeId} {ti : TI} {x : Operand} {it tn te td : Nat} {kd : TypeDesc} {ag : Bool} {kf : κ → MKey} {vf : κ → List D} {m : List κ}
  {f : κ → β → Option (Out β ρ)} {b0 : β} {rr : ρ} {Q : Exit → St → Prop} (K : Out β ρ → Prop) (n0 : Nat) (S1 : St) (J : Nat → β → St) (JB : β → St)
  (hr0 : lr.drop n0 = [og]) (h0 : Chain false P lr.toArray (lr.take n0) S (fun S' => Sub S' S1)) (hx : S1.ev x = .d (.mpi kd ag (m.map kf) (m.map vf)))
  (g1 : og.guard = none) (g2 : og.op = .range t x) (g3 : og.dst = some it) (hT : tyOf P t = some ti) (hd : ti.desc = .map k e)
  (n1 : on.guard = none) (n2 : on.op = .next (.tmp it) false) (n3 : on.dst = some tn) (x1 : ox.guard = none) (x2 : ox.op = .extract (.tmp tn) 0) (x3 : ox.dst = some te)
  (e1 : oe.guard = none) (e2 : oe.op = .entry (.tmp it)) (e3 : oe.dst = some td) (hnt : ∀ r b, tn < (J r b).nt ∧ te < (J r b).nt ∧ tn ≠ te ∧ tn ≠ it ∧ te ≠ it)
  (hJ : ∀ r b, (J r b).sl it = .d (.lit (itv r)) ∧ (J r b).sl tn = .junk ∧ (J r b).sl te = .junk) (hJ0 : ∀ r, Sub (S1.put (some it) (.d (.lit (itv r)))) (J r b0)) (hJB : ∀ r b, Sub (J r b) (JB b))
  (hall : ∀ l', List.Perm l' m → ∃ o', rangeL f l' b0 = some o' ∧ K o')
  (round : ∀ r x b o', f x b = some o' → Chain false P (oe :: l2).toArray l2 ((J r b).put (some td) (.tup [.d (.lit (kf x).enc), mvalV ag (vf x)])) (fun S' => AW P rest S' (blockQ B2 (PostR2 (J r) rr Q o'))))
  (hd0 : noDefer lr = true := by rfl) (hd1 : noDefer [on, ox] = true := by rfl) (hd2 : noDefer (oe :: l2) = true := by rfl) :
  AW P (.seq (.region i0 lr.toArray false) (.block B (.loop (.seq (.region i1 [on, ox].toArray false) (.seq (.cond (.tmp te) .skip (.exit B)) (.block B2 (.seq (.region i2 (oe :: l2).toArray false) rest))))))) S (fun ex S' => ∃ o', K o' ∧ PostJ JB rr Q o' ex S') := by
 intro fx a w hm
 refine wpIn_seq (Code.wpIn_mono ?_ (rd_region (Q := fun a2 w2 => (∃ r bm clock es Zm w1 left seen c0 E fx', w1.heap[bm]? = some (.map es clock) ∧ Zm bm ∧ Go.MapKept.Stamped es clock ∧ MapAt fx J (MEnt w1 Zm ag kf vf) f K r bm clock es Zm w1 left b0 seen c0 E fx' a2 w2) ∨ (∃ r E fx', w2.heap[r]? = some (.mapIter none 0 #[] 0) ∧ K (.go b0) ∧ Ext fx fx' ∧ Mod fx' (J r b0) E a2 w2)) hd0 ?_))
 ·rintro ex a2 w2 ⟨rfl, hQ⟩
  rcases hQ with ⟨r, bm, clock, es, Zm, w1, left, seen, c0, E, fx', hb1, hzb, hst, hM⟩ | ⟨r, E, fx', hit, hK0, hext, hm0⟩
  ·refine Aft.blockIn ?_
   refine Go.wpIn_loop_ghost (fun n a w => ∃ left b seen c0 E fx', left.length = n ∧ MapAt fx J (MEnt w1 Zm ag kf vf) f K r bm clock es Zm w1 left b seen c0 E fx' a w) left.length ⟨left, b0, seen, c0, E, fx', rfl, hM⟩ ?_
   clear hM left seen c0 E fx' a2 w2
   rintro n a w ⟨left, b, seen, c0, E, fx', hlen, hM⟩
   have hbm : w.heap[bm]? = some (.map es clock) := (hM.keep bm hzb).trans hb1
   obtain ⟨j1, j2, j3⟩ := hJ r b
   obtain ⟨q1, q2, q3, q4, q5⟩ := hnt r b
   have hitv : a.tmps.getD it undef = itv r := by
    have := hM.mod.slots it
    rw [j1] at this
    exact RD_lit this
   have hts : a.tmps.size = (J r b).nt := hM.mod.nt
   refine wpIn_seq (Code.wpIn_mono ?_ (rd_region (Q := fun a' w' => (left = [] ∧ a'.eval (.tmp te) = .bool false ∧ Mod fx' (J r b) E a' w') ∨
    (∃ L1 L2 en w'' v1 v2, (es.toList.filter fun e => !seen.contains e.born) = L1 ++ en :: L2 ∧ a'.eval (.tmp te) = .bool true ∧ a' = (a.put (some tn) v1).put (some te) v2 ∧ (w'' = w ∨ w'' = w.drew) ∧ w' = w''.putObj r (.mapIter (some bm) clock (seen.push en.born) clock))) hd1 ?_))
   ·rintro ex a' w' ⟨rfl, hK⟩
    refine wpIn_seq ?_
    rcases hK with ⟨hl, hev, hm'⟩ | ⟨L1, L2, en, w'', v1, v2, hL, hev, rfl, hw'', rfl⟩
    ·refine wpIn_cond (t := false) hev (wpIn_exit ?_)
     obtain ⟨o, ho1, ho2⟩ := hM.all [] (by rw [hl])
     have ho : o = .go b := by
      simp only [rangeL, Option.some.injEq] at ho1
      exact ho1.symm
     refine ⟨J r b, fx', ?_, hM.ext, E, hm'⟩
     simp only [blockQ, if_true]
     rw [ho] at ho2
     exact ⟨_, ho2, rfl, hJB r b⟩
    ·refine wpIn_cond (t := true) hev (wpIn_skip ?_)
     have hrel := hM.rel
     rw [hL] at hrel
     obtain ⟨l1, y, l2', hleft, hr1, hry, hr2⟩ := Rel2.split hrel
     have hcut := left_cut hst.2.1 hL
     have hperm : ∀ l', List.Perm l' (l1 ++ l2') → ∃ o', rangeL f (y :: l') b = some o' ∧ K o' := fun l' hl' => hM.all _ (by rw [hleft]; exact (List.Perm.cons y hl').trans List.perm_middle.symm)
     obtain ⟨o', ho'⟩ : ∃ o', f y b = some o' := by
      obtain ⟨o2, this, _⟩ := hperm _ (List.Perm.refl _)
      simp only [rangeL] at this
      cases hf : f y b with
      | none => rw [hf] at this; cases this
      | some o' => exact ⟨o', rfl⟩
     have hen : en ∈ es.toList := by
      have : en ∈ (es.toList.filter fun e => !seen.contains e.born) := by rw [hL]; simp
      exact (List.mem_filter.1 this).1
     obtain ⟨fxn, f1, f2, f3, f4, f5, f6, ld, f7, f8⟩ := hM.start hw'' (.mapIter (some bm) clock (seen.push en.born) clock)
     have hwh : w''.heap = w.heap := by rcases hw'' with rfl | rfl <;> rfl
     have hrlt : r < w.heap.size := (Array.getElem?_eq_some_iff.1 hM.iter).1
     generalize hW : w''.putObj r (.mapIter (some bm) clock (seen.push en.born) clock) = W at *
     have hWs : W.heap.size = w.heap.size := by rw [← hW, World.putObj_size, hwh]
     have hWr : W.heap[r]? = some (.mapIter (some bm) clock (seen.push en.born) clock) := by rw [← hW]; exact World.putObj_heap_same (by rw [hwh]; exact hrlt)
     have hWo : ∀ z, z ≠ r → W.heap[z]? = w.heap[z]? := fun z hz => by rw [← hW, World.putObj_heap_other hz, hwh]
     have hKz : Keeps Zm w1 W := fun z hz => (hWo z (fun e => hM.rz (e ▸ hz))).trans (hM.keep z hz)
     have m4 : Mod fxn (J r b) (E.more Zm) ((a.put (some tn) v1).put (some te) v2) W := (f3.putJ j2 v1).putJ j3 v2
     have hiv : ((a.put (some tn) v1).put (some te) v2).tmps.getD it undef = itv r := by
      rw [getD_put, if_neg (fun hc => q5 hc.1.symm), getD_put, if_neg (fun hc => q4 hc.1.symm)]; exact hitv
     refine Code.wpIn_mono ?_ (Aft.blockIn (fx := fxn) (Q := PostR2 (J r) rr Q o') (wpIn_seq (Code.wpIn_mono ?_ (rd_region (Q := fun a w => ∃ S', AW P rest S' (blockQ B2 (PostR2 (J r) rr Q o')) ∧ Models fxn S' a w) hd2 ?_))))
     ·rintro ex a3 w3 ⟨S', fx3, hq, hx3, hm3⟩
      cases o' with
      | go b' =>
       obtain ⟨rfl, hs⟩ := hq
       obtain ⟨E3, m3⟩ := hs fx3 a3 w3 hm3
       have fr : fxn.frame w3 := m3.frame.back hx3
       have mine3 : ∀ i, (J r b').hp i ≠ none → ∀ z, (E3.loc i).own z → W.heap.size ≤ z ∨ lof E (J r b).hp z := fun i hi z hn => by
        rcases hx3.mine2 (m3.mine i hi z hn) with g | g
        ·rw [f4] at g; exact .inl g
        ·exact .inr (f5 z g)
       have hLr : ¬ fxn.L r := fun g => by
        obtain ⟨i, hi, hn⟩ := f5 r g
        exact hM.free.1 i hi hn
       refine ⟨(l1 ++ l2').length, by rw [← hlen, hleft]; simp, l1 ++ l2', b', seen.push en.born, clock, E3, fx3, rfl, ⟨f2.trans hx3, m3, ?_, Nat.le_refl _, ⟨fun i hi hn => ?_, fun hz => ?_⟩, fun z hz i hi hn => ?_, fun z hz => ?_, fun z hz => ?_, hM.zfx, ?_, ?_, fun l' hl' => ?_, hM.rz, hM.rfx⟩⟩
       ·rw [fr.block r (by rw [f4, hWs]; exact hrlt) hLr, f4]; exact hWr
       ·rcases mine3 i hi r hn with g | ⟨j, g1, g2⟩
        ·omega
        ·exact hM.free.1 j g1 g2
       ·rcases hx3.z2 (m3.z r hz) with g | g | g
        ·rcases f6 r g with g | g
         ·exact hM.free.2 g
         ·exact hM.rz g
        ·rw [f4] at g; omega
        ·exact hLr g
       ·rcases mine3 i hi z hn with g | ⟨j, g1, g2⟩
        ·have := hM.zlt z hz; omega
        ·exact hM.zown z hz j g1 g2
       ·refine (fr.block z (by rw [f4, hWs]; exact hM.zlt z hz) (fun g => ?_)).trans ?_
        ·obtain ⟨i, hi, hn⟩ := f5 z g
         exact hM.zown z hz i hi hn
        ·rw [f4]; exact hKz z hz
       ·have g := fr.size
        rw [f4, hWs] at g
        exact Nat.lt_of_lt_of_le (hM.zlt z hz) g
       ·obtain ⟨l, hl1, _, hl3⟩ := hx3.dfr
        refine ⟨l ++ ld, by rw [hl1, f7, List.map_append, List.append_assoc], fun D hD hz => ?_⟩
        rcases List.mem_append.1 hD with hD | hD
        ·have g := (hl3 D hD).1
         rw [f4, hWs] at g
         have := hM.zlt D hz
         omega
        ·exact f8 D hD hz
       ·rw [hcut]; exact Rel2.app hr2 hr1
       ·have := hperm l' hl'
        simpa only [rangeL, ho'] using this
      | ret r' =>
       obtain ⟨rfl, hq⟩ := hq
       obtain ⟨o, ho1, ho2⟩ := hperm _ (List.Perm.refl _)
       have ho : o = .ret r' := by
        simp only [rangeL, ho', Option.some.injEq] at ho1
        exact ho1.symm
       refine ⟨S', fx3, ?_, f2.trans hx3, hm3⟩
       rw [ho] at ho2
       exact ⟨_, ho2, by simp, hq⟩
     ·rintro ex a3 w3 ⟨rfl, S', hA, hm3⟩
      have := hA fxn a3 w3 hm3
      rw [f1] at this
      exact this
     ·have hWb : W.heap[bm]? = some (.map es clock) := (hKz bm hzb).trans hb1
      have hrun := run_entry_at (P := P) W r bm clock seen es clock en hWr hWb hen hst.2.1
      unfold wpList
      rw [if_pos (by simp [Region.wanted, e1])]
      refine .inl ?_
      unfold Oper.wp
      have hex : (execOp ((a.put (some tn) v1).put (some te) v2).eval oe).run P W = .ok (.value (.tuple #[en.key, en.val])) W := by
       have hiv' : ((a.put (some tn) v1).put (some te) v2).eval (.tmp it) = .pointer (some ⟨r, 0, none⟩) := hiv
       simp [execOp, e2, hiv', hrun, Result.andThen]
      rw [hex]
      have hput := m4.put (some td) (hry.val (ag := ag) hKz (E := E.more Zm) (fun _ h => Or.inr h))
      rw [← e3] at hput
      refine round r y b o' ho' fxn _ W _ ⟨_, by rw [e3] at hput ⊢; exact hput⟩ fun S' a' w' hS' hm' => ⟨rfl, S', hS', hm'⟩
   ·have hhold : ∀ z ∈ es.toList, z.born < clock := hst.1
    have hev : a.eval (.tmp it) = .pointer (some ⟨r, 0, none⟩) := hitv
    have fin : ∀ (v : Value) (w' : World), v = .bool false ∨ v = .bool true → ∀ vs : List Value, (∀ K : Act → World → Prop, K ((a.put (some tn) (.tuple (v :: vs).toArray)).put (some te) v) w' → wpList P [on, ox].toArray (NQ K) [ox] (a.put on.dst (.tuple (v :: vs).toArray)) w') := fun v w' _ vs K hK => by
     unfold wpList
     rw [if_pos (by simp [Region.wanted, x1])]
     refine .inl ?_
     unfold Oper.wp
     have hr : (a.put on.dst (.tuple (v :: vs).toArray)).eval (.tmp tn) = .tuple (v :: vs).toArray := by
      show (a.put on.dst _).tmps.getD tn undef = _
      rw [n3, getD_put, if_pos ⟨rfl, by rw [hts]; exact q1⟩]
     have hex : (execOp (a.put on.dst (.tuple (v :: vs).toArray)).eval ox).run P w' = .ok (.value v) w' := by
      simp [execOp, x2, hr, Instr.extract]
     rw [hex]
     show NQ K .normal ((a.put on.dst (.tuple (v :: vs).toArray)).put ox.dst v) w'
     rw [n3, x3]
     exact ⟨rfl, hK⟩
    have tev : ∀ (v1 v2 : Value), ((a.put (some tn) v1).put (some te) v2).eval (.tmp te) = v2 := fun v1 v2 => by
     show ((a.put (some tn) v1).put (some te) v2).tmps.getD te undef = _
     rw [getD_put, if_pos ⟨rfl, by simpa [Act.put, hts] using q2⟩]
    unfold wpList
    rw [if_pos (by simp [Region.wanted, n1])]
    refine .inl ?_
    unfold Oper.wp
    rcases run_next_at (P := P) w on.type r bm clock c0 seen es clock hM.iter hbm hhold hM.late with ⟨hs0, hrun⟩ | ⟨en, hen, w'', hw'', hrun⟩
    ·have hex : (execOp a.eval on).run P w = .ok (.value (.tuple #[.bool false])) w := by
      simp [execOp, n2, hev, hrun, Result.andThen]
     rw [hex]
     refine fin (.bool false) w (.inl rfl) [] _ (.inl ⟨?_, tev _ _, (hM.mod.putJ j2 _).putJ j3 _⟩)
     have hnil : (es.toList.filter fun e => !seen.contains e.born) = [] := by
      have : (leftOf es seen).toList = [] := by
       apply List.eq_nil_of_length_eq_zero
       simpa using hs0
      rw [← this]
      unfold leftOf
      rw [Array.toList_filter]
     have hr := hM.rel
     rw [hnil] at hr
     exact Rel2.nil hr
    ·have hex : (execOp a.eval on).run P w = .ok (.value (.tuple #[.bool true, en.key, en.val])) (Go.ChangeMaps.setBlock w'' r (.mapIter (some bm) clock (seen.push en.born) clock)) := by
      simp [execOp, n2, hev, hrun, Result.andThen]
     rw [hex]
     have hmem : en ∈ (es.toList.filter fun e => !seen.contains e.born) := by
      unfold leftOf at hen
      rwa [Array.toList_filter] at hen
     obtain ⟨L1, L2, hL⟩ := List.append_of_mem hmem
     exact fin (.bool true) _ (.inr rfl) [en.key, en.val] _ (.inr ⟨L1, L2, en, w'', _, _, hL, tev _ _, rfl, hw'', rfl⟩)
  ·refine Aft.blockIn ?_
   refine Go.wpIn_loop_ghost (fun n a w => ∃ E fx', w.heap[r]? = some (.mapIter none 0 #[] 0) ∧ Ext fx fx' ∧ Mod fx' (J r b0) E a w) 0 ⟨E, fx', hit, hext, hm0⟩ ?_
   clear hit hext hm0 E fx' a2 w2
   rintro n a w ⟨E, fx', hit, hext, hm0⟩
   obtain ⟨j1, j2, j3⟩ := hJ r b0
   obtain ⟨q1, q2, q3, q4, q5⟩ := hnt r b0
   have hitv : a.tmps.getD it undef = itv r := by
    have := hm0.slots it
    rw [j1] at this
    exact RD_lit this
   have hts : a.tmps.size = (J r b0).nt := hm0.nt
   refine wpIn_seq (Code.wpIn_mono ?_ (rd_region (Q := fun a' w' => a'.eval (.tmp te) = .bool false ∧ Mod fx' (J r b0) E a' w') hd1 ?_))
   ·rintro ex a' w' ⟨rfl, hev, hm'⟩
    refine wpIn_seq (wpIn_cond (t := false) hev (wpIn_exit ?_))
    refine ⟨J r b0, fx', ?_, hext, E, hm'⟩
    simp only [blockQ, if_true]
    exact ⟨_, hK0, rfl, hJB r b0⟩
   ·have hev : a.eval (.tmp it) = .pointer (some ⟨r, 0, none⟩) := hitv
    have fin : ∀ (v : Value) (w' : World), v = .bool false ∨ v = .bool true → ∀ vs : List Value, (∀ K : Act → World → Prop, K ((a.put (some tn) (.tuple (v :: vs).toArray)).put (some te) v) w' → wpList P [on, ox].toArray (NQ K) [ox] (a.put on.dst (.tuple (v :: vs).toArray)) w') := fun v w' _ vs K hK => by
     unfold wpList
     rw [if_pos (by simp [Region.wanted, x1])]
     refine .inl ?_
     unfold Oper.wp
     have hr : (a.put on.dst (.tuple (v :: vs).toArray)).eval (.tmp tn) = .tuple (v :: vs).toArray := by
      show (a.put on.dst _).tmps.getD tn undef = _
      rw [n3, getD_put, if_pos ⟨rfl, by rw [hts]; exact q1⟩]
     have hex : (execOp (a.put on.dst (.tuple (v :: vs).toArray)).eval ox).run P w' = .ok (.value v) w' := by
      simp [execOp, x2, hr, Instr.extract]
     rw [hex]
     show NQ K .normal ((a.put on.dst (.tuple (v :: vs).toArray)).put ox.dst v) w'
     rw [n3, x3]
     exact ⟨rfl, hK⟩
    have tev : ∀ (v1 v2 : Value), ((a.put (some tn) v1).put (some te) v2).eval (.tmp te) = v2 := fun v1 v2 => by
     show ((a.put (some tn) v1).put (some te) v2).tmps.getD te undef = _
     rw [getD_put, if_pos ⟨rfl, by simpa [Act.put, hts] using q2⟩]
    unfold wpList
    rw [if_pos (by simp [Region.wanted, n1])]
    refine .inl ?_
    unfold Oper.wp
    have hrun := run_next_nil (P := P) w on.type r 0 0 #[] hit
    have hex : (execOp a.eval on).run P w = .ok (.value (.tuple #[.bool false])) w := by
     simp [execOp, n2, hev, hrun, Result.andThen]
    rw [hex]
    exact fin (.bool false) w (.inl rfl) [] _ ⟨tev _ _, (hm0.putJ j2 _).putJ j3 _⟩
 ·have hlr : lr.take n0 ++ [og] = lr := by rw [← hr0, List.take_append_drop]
  suffices hs : wpList P lr.toArray (NQ fun a2 w2 => (∃ r bm clock es Zm w1 left seen c0 E fx', w1.heap[bm]? = some (.map es clock) ∧ Zm bm ∧ Go.MapKept.Stamped es clock ∧ MapAt fx J (MEnt w1 Zm ag kf vf) f K r bm clock es Zm w1 left b0 seen c0 E fx' a2 w2) ∨ (∃ r E fx', w2.heap[r]? = some (.mapIter none 0 #[] 0) ∧ K (.go b0) ∧ Ext fx fx' ∧ Mod fx' (J r b0) E a2 w2)) (lr.take n0 ++ [og]) a w by
   rwa [hlr] at hs
  refine wpList_app ?_
  refine h0 fx a w _ hm fun S' a1 w1 hS' hm1 => ⟨rfl, ?_⟩
  obtain ⟨E1, m1⟩ := hS' fx a1 w1 hm1
  have hxv := m1.ev x
  rw [hx] at hxv
  rcases hxv with ⟨v1, hks, _⟩ | ⟨bm, es, clock, v1, v2, v3, v4, _, es', vp, v6, v7⟩
  ·have hmn : m = [] := List.map_eq_nil_iff.1 hks
   have hK0 : K (.go b0) := by
    obtain ⟨o', ho1, ho2⟩ := hall [] (by rw [hmn])
    simp only [rangeL, Option.some.injEq] at ho1
    rw [ho1]; exact ho2
   have hrun := run_range_nilMap (P := P) w1 t k e (by rw [← hd]; exact (tyOf_spec hT).1)
   unfold wpList
   rw [if_pos (by simp [Region.wanted, g1])]
   refine .inl ?_
   unfold Oper.wp
   have hex : (execOp a1.eval og).run P w1 = .ok (.value (itv w1.heap.size)) (w1.alloc (.mapIter none 0 #[] 0)) := by
    simp [execOp, g2, v1, hrun, Result.andThen, itv]
   rw [hex]
   rw [Oper.upon_value, wpList]
   refine ⟨rfl, ?_⟩
   have m2 := (m1.grow (grow_alloc w1 (.mapIter none 0 #[] 0))).put og.dst (v := .d (.lit (itv w1.heap.size))) (x := itv w1.heap.size) ⟨rfl, rfl⟩
   rw [g3] at m2 ⊢
   have hsz2 : (w1.alloc (.mapIter none 0 #[] 0)).heap.size = w1.heap.size + 1 := World.size_alloc _ _
   generalize hw2 : w1.alloc (.mapIter none 0 #[] 0) = w2 at *
   have hnew : w2.heap[w1.heap.size]? = some (.mapIter none 0 #[] 0) := by rw [← hw2]; exact World.alloc_heap_new w1 _
   have hold : ∀ z, z < w1.heap.size → w2.heap[z]? = w1.heap[z]? := fun z hz => by rw [← hw2]; exact (grow_alloc w1 _).block z hz
   have hrec : ∀ l, fx.ro = some l → Free (S1.put (some it) (.d (.lit (itv w1.heap.size)))).hp E1 l ∧ ∃ q, w2.heap[l]? = some (.loop q) := fun l hl => by
    obtain ⟨k1, k2, k3, q, k4⟩ := fx.lrec l hl
    exact ⟨m2.apart k1 k2 k3, q, (m2.frame.block l k1 k2).trans k4⟩
   have m3 := m2.now fx.roots (a1.put (some it) (itv w1.heap.size)).defers fx.ro hrec m2.roots
   obtain ⟨fxn, hfxn⟩ : ∃ fxn, fxn = Fx.now w2 E1 (S1.put (some it) (.d (.lit (itv w1.heap.size)))).hp fx.roots (a1.put (some it) (itv w1.heap.size)).defers fx.ro hrec m2.go := ⟨_, rfl⟩
   have hext : Ext fx fxn := by
    rw [hfxn]
    exact ⟨rfl, m2.frame, fun z ⟨i, hi, hn⟩ => m2.mine i hi z hn, m2.z, rfl, [], m2.dfr, List.nodup_nil, fun _ h => by cases h⟩
   rw [← hfxn] at m3
   obtain ⟨E2, m4⟩ := hJ0 _ fxn _ _ ⟨E1, m3⟩
   have hw0 : fxn.w0 = w2 := by rw [hfxn]; rfl
   have hL : ∀ z, fxn.L z → lof E1 S1.hp z := fun z hz => by rw [hfxn] at hz; exact hz
   have hZ : ∀ z, fxn.Z0 z → E1.Z z := fun z hz => by rw [hfxn] at hz; exact hz
   have hZlt := m1.ok.zlt
   exact .inr ⟨w1.heap.size, E2, fxn, hnew, hK0, hext, m4⟩
  ·obtain ⟨m', hpm, hrel0⟩ := Rel2.perm vp (Rel2.of_map v6 v7)
   have hrun := run_range_map (P := P) w1 t k e bm es clock (by rw [← hd]; exact (tyOf_spec hT).1) v3
   unfold wpList
   rw [if_pos (by simp [Region.wanted, g1])]
   refine .inl ?_
   unfold Oper.wp
   have hex : (execOp a1.eval og).run P w1 = .ok (.value (itv w1.heap.size)) (w1.alloc (.mapIter (some bm) clock #[] clock)) := by
    simp [execOp, g2, v1, hrun, Result.andThen, itv]
   rw [hex]
   rw [Oper.upon_value, wpList]
   refine ⟨rfl, ?_⟩
   have m2 := (m1.grow (grow_alloc w1 (.mapIter (some bm) clock #[] clock))).put og.dst (v := .d (.lit (itv w1.heap.size))) (x := itv w1.heap.size) ⟨rfl, rfl⟩
   rw [g3] at m2 ⊢
   have hsz2 : (w1.alloc (.mapIter (some bm) clock #[] clock)).heap.size = w1.heap.size + 1 := World.size_alloc _ _
   generalize hw2 : w1.alloc (.mapIter (some bm) clock #[] clock) = w2 at *
   have hnew : w2.heap[w1.heap.size]? = some (.mapIter (some bm) clock #[] clock) := by rw [← hw2]; exact World.alloc_heap_new w1 _
   have hold : ∀ z, z < w1.heap.size → w2.heap[z]? = w1.heap[z]? := fun z hz => by rw [← hw2]; exact (grow_alloc w1 _).block z hz
   have hrec : ∀ l, fx.ro = some l → Free (S1.put (some it) (.d (.lit (itv w1.heap.size)))).hp E1 l ∧ ∃ q, w2.heap[l]? = some (.loop q) := fun l hl => by
    obtain ⟨k1, k2, k3, q, k4⟩ := fx.lrec l hl
    exact ⟨m2.apart k1 k2 k3, q, (m2.frame.block l k1 k2).trans k4⟩
   have m3 := m2.now fx.roots (a1.put (some it) (itv w1.heap.size)).defers fx.ro hrec m2.roots
   obtain ⟨fxn, hfxn⟩ : ∃ fxn, fxn = Fx.now w2 E1 (S1.put (some it) (.d (.lit (itv w1.heap.size)))).hp fx.roots (a1.put (some it) (itv w1.heap.size)).defers fx.ro hrec m2.go := ⟨_, rfl⟩
   have hext : Ext fx fxn := by
    rw [hfxn]
    exact ⟨rfl, m2.frame, fun z ⟨i, hi, hn⟩ => m2.mine i hi z hn, m2.z, rfl, [], m2.dfr, List.nodup_nil, fun _ h => by cases h⟩
   rw [← hfxn] at m3
   obtain ⟨E2, m4⟩ := hJ0 _ fxn _ _ ⟨E1, m3⟩
   have hw0 : fxn.w0 = w2 := by rw [hfxn]; rfl
   have hL : ∀ z, fxn.L z → lof E1 S1.hp z := fun z hz => by rw [hfxn] at hz; exact hz
   have hZ : ∀ z, fxn.Z0 z → E1.Z z := fun z hz => by rw [hfxn] at hz; exact hz
   have hZlt := m1.ok.zlt
   refine .inl ⟨w1.heap.size, bm, clock, es, E1.Z, w1, m', #[], clock, E2, fxn, v3, v2, v4, ⟨hext, m4, hnew, Nat.le_refl _, ⟨fun i hi hn => ?_, fun hz => ?_⟩, fun z hz i hi hn => ?_, fun z hz => hold z (hZlt z hz), fun z hz => ?_, m1.z, ⟨[], ?_, fun _ h => by cases h⟩, ?_, (fun l hl => hall l (hl.trans hpm)), fun hz => ?_, m1.frame.size⟩⟩
   ·rcases m4.mine i hi _ hn with g | g
    ·rw [hw0, hsz2] at g; omega
    ·have := m1.ok.lof_lt (hL _ g); omega
   ·rcases m4.z _ hz with g | g | g
    ·have := hZlt _ (hZ _ g); omega
    ·rw [hw0, hsz2] at g; omega
    ·have := m1.ok.lof_lt (hL _ g); omega
   ·rcases m4.mine i hi _ hn with g | g
    ·rw [hw0, hsz2] at g; have := hZlt z hz; omega
    ·obtain ⟨j, g1, g2⟩ := hL _ g
     exact m1.ok.apart j g1 z g2 hz
   ·rw [hsz2]; have := hZlt z hz; omega
   ·rw [hfxn]; exact m2.dfr
   ·have : (es.toList.filter fun e => !(#[] : Array Nat).contains e.born) = es.toList := by simp
    rw [this]
    exact hrel0
   ·have := hZlt _ hz; omega
theorem AW.mapR {P : Program} {κ β ρ : Type} {i0 i1 i2 B B2 : Nat} {lr : List Oper} {og on ox oe : Oper} {l2 : List Oper} {rest : Code} {S : St} {t k e : TypeId} {ti : TI} {x : Operand} {it tn te td : Nat} {kd : TypeDesc} {ag : Bool} {kf : κ → MKey} {vf : κ → List D} {m : List κ}
  {f : κ → β → Option (Out β ρ)} {b0 : β} {o : Out β ρ} {rr : ρ} {Q : Exit → St → Prop} (n0 : Nat) (S1 : St) (J : Nat → β → St) (JB : β → St)
  (hr0 : lr.drop n0 = [og]) (h0 : Chain false P lr.toArray (lr.take n0) S (fun S' => Sub S' S1)) (hx : S1.ev x = .d (.mpi kd ag (m.map kf) (m.map vf)))
  (g1 : og.guard = none) (g2 : og.op = .range t x) (g3 : og.dst = some it) (hT : tyOf P t = some ti) (hd : ti.desc = .map k e)
  (n1 : on.guard = none) (n2 : on.op = .next (.tmp it) false) (n3 : on.dst = some tn) (x1 : ox.guard = none) (x2 : ox.op = .extract (.tmp tn) 0) (x3 : ox.dst = some te)
  (e1 : oe.guard = none) (e2 : oe.op = .entry (.tmp it)) (e3 : oe.dst = some td) (hnt : ∀ r b, tn < (J r b).nt ∧ te < (J r b).nt ∧ tn ≠ te ∧ tn ≠ it ∧ te ≠ it)
  (hJ : ∀ r b, (J r b).sl it = .d (.lit (itv r)) ∧ (J r b).sl tn = .junk ∧ (J r b).sl te = .junk) (hJ0 : ∀ r, Sub (S1.put (some it) (.d (.lit (itv r)))) (J r b0)) (hJB : ∀ r b, Sub (J r b) (JB b))
  (h : rangeM f m b0 = some o)
  (round : ∀ r x b o', f x b = some o' → Chain false P (oe :: l2).toArray l2 ((J r b).put (some td) (.tup [.d (.lit (kf x).enc), mvalV ag (vf x)])) (fun S' => AW P rest S' (blockQ B2 (PostR2 (J r) rr Q o'))))
  (hd0 : noDefer lr = true := by rfl) (hd1 : noDefer [on, ox] = true := by rfl) (hd2 : noDefer (oe :: l2) = true := by rfl) :
  AW P (.seq (.region i0 lr.toArray false) (.block B (.loop (.seq (.region i1 [on, ox].toArray false) (.seq (.cond (.tmp te) .skip (.exit B)) (.block B2 (.seq (.region i2 (oe :: l2).toArray false) rest))))))) S (PostJ JB rr Q o) :=
 (AW.mapL (rr := rr) (Q := Q) (fun o' => o' = o) n0 S1 J JB hr0 h0 hx g1 g2 g3 hT hd n1 n2 n3 x1 x2 x3 e1 e2 e3 hnt hJ hJ0 hJB (fun l' hl => ⟨o, rangeM_some h l' hl, rfl⟩) round hd0 hd1 hd2).mono fun _ex _S' ⟨_, ho, hp⟩ => ho ▸ hp
end Go.Ab
end
section
namespace Go.Ab
open Go.RowKit
@[simp] def FT (b : Nat → Bool) : List Nat → Prop
 | [] => True
 | j :: r => b j = true ∧ FT b r
@[simp] def FD (b : Nat → Bool) (i : Nat) : List (List Nat) → Nat → Prop
 | [], _ => True
 | a :: r, k => (a.contains i = true → b k = false) ∧ FD b i r (k + 1)
theorem FT_of {b : Nat → Bool} : ∀ {l : List Nat}, (∀ j, j ∈ l → b j = true) → FT b l
 | [], _ => trivial
 | j :: _r, h => ⟨h j (.head _), FT_of fun k hk => h k (.tail _ hk)⟩
theorem FD_of {b : Nat → Bool} {i : Nat} : ∀ {L : List (List Nat)} {n : Nat}, (∀ k, i ∈ L.getD k [] → b (n + k) = false) → FD b i L n
 | [], _, _ => trivial
 | a :: r, n, h => ⟨fun hc => h 0 (by simpa using hc), FD_of (n := n + 1) fun k hk => by
   have := h (k + 1) (by simpa using hk)
   rwa [show n + (k + 1) = n + 1 + k by omega] at this⟩
theorem fct {b : Nat → Bool} {i : Nat} {L : List (List Nat)} (h0 : b i = false) (ha : ∀ j, j ∈ L.getD i [] → b j = true) (hd : ∀ k, i ∈ L.getD k [] → b k = false) : b i = false ∧ FT b (L.getD i []) ∧ FD b i L 0 :=
 ⟨h0, FT_of ha, FD_of fun k hk => by rw [Nat.zero_add]; exact hd k hk⟩
theorem Chain.tt {q : Bool} {P : Program} {ops : Array Oper} {lo : List Oper} {nt : Nat} {rts : List Nat} {l : List (Nat × V)} {h : List (Nat × Option Blk)} {Q : St → Prop} (l' : List (Nat × V)) (h' : List (Nat × Option Blk)) (k : Chain q P ops lo (mk nt rts l' h') Q)
  (hl : ∀ p ∈ l', p.2 = tlook l p.1 := by simp) (hh : ∀ p ∈ h', p.2 = hlook h p.1 := by simp) : Chain q P ops lo (mk nt rts l h) Q := Chain.sub (.table hl hh) k
theorem AW.tt {P : Program} {c : Code} {nt : Nat} {rts : List Nat} {l : List (Nat × V)} {h : List (Nat × Option Blk)} {Q : Exit → St → Prop} (l' : List (Nat × V)) (h' : List (Nat × Option Blk)) (k : AW P c (mk nt rts l' h') Q)
  (hl : ∀ p ∈ l', p.2 = tlook l p.1 := by simp) (hh : ∀ p ∈ h', p.2 = hlook h p.1 := by simp) : AW P c (mk nt rts l h) Q := AW.sub (.table hl hh) k
theorem Chain.st {q : Bool} {P : Program} {ops : Array Oper} {lo : List Oper} {S : St} {Q : St → Prop} (S' : St) (k : Chain q P ops lo S' Q) (hs : Sub S S' := by (simp; exact Sub.table (by simp) (by simp))) : Chain q P ops lo S Q := Chain.sub hs k
theorem AW.st {P : Program} {c : Code} {S : St} {Q : Exit → St → Prop} (S' : St) (k : AW P c S' Q) (hs : Sub S S' := by (simp; exact Sub.table (by simp) (by simp))) : AW P c S Q := AW.sub hs k
end Go.Ab
end
section
namespace Go.Ab
open Go.RowKit
def u8s (s : ByteArray) : List Int := s.data.toList.map fun b => (b.toNat : Int)
def convB (s : ByteArray) : Option (List Int) := if s.size ≤ maxLen then some (u8s s) else none
theorem convB_some {s : ByteArray} {r : List Int} (h : convB s = some r) : s.size ≤ maxLen ∧ u8s s = r := by
 obtain ⟨h1, h2⟩ := gsome h
 injection h2 with h2
 exact ⟨h1, h2⟩
theorem u8s_length (s : ByteArray) : (u8s s).length = s.size := by simp [u8s]
theorem RDe_u8of {w : World} {Z : Nat → Prop} : ∀ l : List UInt8, RDe w Z ((l.map fun b => (b.toNat : Int)).map (cI .u8)) (l.map fun b => Value.int .u8 b.toNat)
 | [] => rfl
 | b :: l => ⟨[Value.int .u8 b.toNat], l.map fun b => Value.int .u8 b.toNat, rfl, ⟨_, [], rfl, ⟨rfl, rfl⟩, rfl⟩, RDe_u8of l⟩
theorem grow_drew1 (w : World) : Grow w w.drew := ⟨rfl, rfl, rfl, Nat.le_refl _, fun _ _ => rfl⟩
theorem Chain.convB {P : Program} {ops : Array Oper} {o : Oper} {l : List Oper} {S : St} {Q : St → Prop} {src dst e : TypeId} {x : Operand} {ts td te : TI} {s : ByteArray} {r : List Int} (hw : wantedV ops S o = some true) (ho : o.op = .convert src dst x)
  (hs : tyOf P src = some ts) (hsd : ts.desc = .string) (hd : tyOf P dst = some td) (hdd : td.desc = .slice e) (he : tyOf P e = some te) (hed : te.desc = .int .u8) (hx : S.ev x = .d (.lit (.string s))) (hr : Ab.convB s = some r)
  (h : Chain false P ops l (S.put o.dst (.d (.sl (r.map (cI .u8))))) Q) : Chain false P ops (o :: l) S Q := by
 obtain ⟨hl, rfl⟩ := convB_some hr
 intro fx a w Q' ⟨E, m⟩ hq
 unfold wpList
 rw [if_pos (wantedV_sound m hw)]
 refine .inl ?_
 have hxv := m.ev x
 rw [hx] at hxv
 obtain ⟨hxv, _⟩ := hxv
 have hus : P.underlying src = some .string := by rw [(tyOf_spec hs).1, hsd]
 have hud : P.underlying dst = some (.slice e) := by rw [(tyOf_spec hd).1, hdd]
 have hue : P.underlying e = some (.int .u8) := by rw [(tyOf_spec he).1, hed]
 have hrun := run_bytes_of_string (P := P) w src dst e s hus hud hue
 obtain ⟨cap, hcap⟩ : ∃ c, c = grownCap w s.size 0 e := ⟨_, rfl⟩
 have hge : s.size ≤ cap := hcap ▸ grownCap_ge w s.size 0 e
 have hle : cap ≤ maxLen := hcap ▸ grownCap_le_maxLen w s.size 0 e hl
 rw [← hcap] at hrun
 have m1 := (m.grow (grow_drew1 w)).lay (.cells (bytesRow s cap) e ((bytesRow s cap).size, (bytesRow s cap).size + 1))
 have hrv : RV { E with Z := fun b => E.Z b ∨ b = w.heap.size } (w.drew.alloc (.cells (bytesRow s cap) e ((bytesRow s cap).size, (bytesRow s cap).size + 1))) (.d (.sl ((u8s s).map (cI .u8)))) (.slice (some ⟨w.heap.size, 0, none⟩) s.size cap) := by
  refine ⟨some ⟨w.heap.size, 0, none⟩, cap, by rw [List.length_map, u8s_length], by rw [List.length_map, u8s_length]; exact hge, hle, (fun h => by cases h), fun _ => ⟨w.heap.size, 0, 1, _, rfl, .inr rfl, ?_, RDe_u8of s.data.toList, ?_⟩⟩
  ·intro y hy
   obtain ⟨z, _, rfl⟩ := List.mem_map.1 hy
   rfl
  ·intro j v hv
   have hb : (w.drew.alloc (.cells (bytesRow s cap) e ((bytesRow s cap).size, (bytesRow s cap).size + 1))).heap[w.heap.size]? = some (.cells (bytesRow s cap) e ((bytesRow s cap).size, (bytesRow s cap).size + 1)) := by
    show (w.heap.push _)[w.heap.size]? = _
    simp
   simp only [World.cell?, hb]
   rw [Nat.zero_add]
   have hj : j < s.data.size := by
    have := (List.getElem?_eq_some_iff.1 hv).1
    simpa using this
   unfold bytesRow
   rw [Array.getElem?_append_left (by simpa using hj)]
   simpa using hv
 unfold Oper.wp execOp
 simp only [ho, hxv, Sem.run_bind, hrun, Result.andThen_ok, Sem.run_pure, Oper.upon]
 exact h fx _ _ Q' ⟨_, m1.put o.dst hrv⟩ hq
theorem RD_bytes (w : World) (e : TypeId) (s : ByteArray) (Z : Nat → Prop) (hl : s.size ≤ maxLen) (hz : Z w.heap.size) :
  RD (w.drew.alloc (.cells (bytesRow s (grownCap w s.size 0 e)) e ((bytesRow s (grownCap w s.size 0 e)).size, (bytesRow s (grownCap w s.size 0 e)).size + 1))) Z (.sl ((u8s s).map (cI .u8))) (.slice (some ⟨w.heap.size, 0, none⟩) s.size (grownCap w s.size 0 e)) := by
 have hge := grownCap_ge w s.size 0 e
 have hle := grownCap_le_maxLen w s.size 0 e hl
 generalize grownCap w s.size 0 e = cap at *
 refine ⟨some ⟨w.heap.size, 0, none⟩, cap, by rw [List.length_map, u8s_length], by rw [List.length_map, u8s_length]; exact hge, hle, (fun h => by cases h), fun _ => ⟨w.heap.size, 0, 1, _, rfl, hz, ?_, RDe_u8of s.data.toList, ?_⟩⟩
 ·intro y hy
  obtain ⟨z, _, rfl⟩ := List.mem_map.1 hy
  rfl
 ·intro j v hv
  have hb : (w.drew.alloc (.cells (bytesRow s cap) e ((bytesRow s cap).size, (bytesRow s cap).size + 1))).heap[w.heap.size]? = some (.cells (bytesRow s cap) e ((bytesRow s cap).size, (bytesRow s cap).size + 1)) := by
   show (w.heap.push _)[w.heap.size]? = _
   simp
  simp only [World.cell?, hb]
  rw [Nat.zero_add]
  have hj : j < s.data.size := by
   have := (List.getElem?_eq_some_iff.1 hv).1
   simpa using this
  unfold bytesRow
  rw [Array.getElem?_append_left (by simpa using hj)]
  simpa using hv
theorem run_loadBytes {P : Program} {w : World} {b : Nat} : ∀ (l : List Int) (o : Nat) (acc : ByteArray), w.rangeAt b o (l.map fun n => Value.int .u8 n) → (Extern.Bytes.loadBytes ⟨b, o, none⟩ l.length acc).run P w = .ok ⟨acc.data ++ (l.map fun n => UInt8.ofNat n.toNat).toArray⟩ w
 | [], _, acc, _ => by
  simp [Extern.Bytes.loadBytes]
 | n :: l, o, acc, h => by
  have h0 := h 0 _ rfl
  have := run_loadBytes (P := P) l (o + 1) (acc.push (UInt8.ofNat n.toNat)) (fun j v hv => by
   have := h (j + 1) v (by simpa using hv)
   rwa [show o + 1 + j = o + (j + 1) by omega])
  have hl : (load ⟨b, o, none⟩).run P w = .ok (.int .u8 n) w := by
   have hc : w.cell? ⟨b, o, none⟩ = some (.int .u8 n) := h0
   simp [hc]
  have hadd : (⟨b, o, none⟩ : Addr).add 1 = ⟨b, o + 1, none⟩ := Addr.add_mid b o 1
  rw [List.length_cons]
  unfold Extern.Bytes.loadBytes
  simp only [Sem.run_bind, hl, Result.andThen_ok, hadd]
  refine this.trans ?_
  simp [ByteArray.push]
theorem bytes_loaded {P : Program} {w : World} {Z : Nat → Prop} {l : List Int} {v : Value} (h : RD w Z (.sl (l.map (cI .u8))) v) : (Extern.Bytes.bytesOf v).run P w = .ok (bstr l) w := by
 obtain ⟨A, cap, hv, h1, h2, h3, h4⟩ := h
 rw [hv, List.length_map]
 cases l with
 | nil =>
  cases A with
  | none => rfl
  | some a => rfl
 | cons n l =>
  obtain ⟨b, o, k, flat, rfl, _, _, h5, h6⟩ := h4 (by simp)
  have := RDe_u8 h5
  subst this
  have := run_loadBytes (P := P) (n :: l) o .empty h6
  simpa [Extern.Bytes.bytesOf, bstr] using this
theorem pure_cmpB {P : Program} {S : St} {c : Call} {x y : Operand} {f : FuncId} (a b : List Int) (hc : c.callee = .value (.func f)) (hca : c.args = #[x, y]) (hrun : ∀ args w, (callFunc f args).run P w = ((Extern.BytealgCompare.compare args).run P w).andThen fun v w' => .ok (.value v) w')
  (hx : S.ev x = .d (.sl (a.map (cI .u8)))) (hy : S.ev y = .d (.sl (b.map (cI .u8)))) : Pure P (.call c) S (.d (.lit (.int .i64 (Lib.compareBytes (bstr a).data.toList (bstr b).data.toList)))) := by
 intro E w ρ oo hoo ok hev
 have h := hev x
 rw [hx] at h
 have g := hev y
 rw [hy] at g
 refine ⟨.int .i64 (Lib.compareBytes (bstr a).data.toList (bstr b).data.toList), ⟨rfl, rfl⟩, fun w' hg => ?_⟩
 have h : RD w' E.Z (.sl (a.map (cI .u8))) (ρ x) := RD.keep (Grow.keeps hg ok) (fun _ h => h) _ _ h
 have g : RD w' E.Z (.sl (b.map (cI .u8))) (ρ y) := RD.keep (Grow.keeps hg ok) (fun _ h => h) _ _ g
 have e : (Extern.BytealgCompare.compare #[ρ x, ρ y]).run P w' = .ok (.int .i64 (Lib.compareBytes (bstr a).data.toList (bstr b).data.toList)) w' := by
  change Sem.run P (do pure (goInt (Extern.BytealgCompare.cmp (← Extern.Bytes.bytesOf (ρ x)) (← Extern.Bytes.bytesOf (ρ y))))) w' = _
  simp only [Sem.run_bind, bytes_loaded h, bytes_loaded g, Result.andThen_ok, Sem.run_pure]
  rw [Lib.cmp_eq]
  rfl
 unfold execOp
 rw [hoo]
 have hv : ∀ n : FuncId, ρ (.func n) = .func (.func n) #[] #[] := fun n => RD_lit (hev (.func n))
 simp [resolve, hc, hca, hv, Deferred.ofValue, invoke, hrun, e, Result.andThen]
theorem bstr_u8s (s : ByteArray) : bstr (u8s s) = s := by
 have : (u8s s).map (fun n => UInt8.ofNat n.toNat) = s.data.toList := by
  unfold u8s
  rw [List.map_map]
  conv => rhs; rw [← List.map_id s.data.toList]
  apply List.map_congr_left
  intro b _
  simp
 unfold bstr
 rw [this]
theorem cmp_two {P : Program} (w0 : World) (e : TypeId) (s s' : ByteArray) (hl : s.size ≤ maxLen) (hl' : s'.size ≤ maxLen) (w1 w2 : World) (h1 : w1 = w0.drew.alloc (.cells (bytesRow s (grownCap w0 s.size 0 e)) e ((bytesRow s (grownCap w0 s.size 0 e)).size, (bytesRow s (grownCap w0 s.size 0 e)).size + 1)))
  (h2 : w2 = w1.drew.alloc (.cells (bytesRow s' (grownCap w1 s'.size 0 e)) e ((bytesRow s' (grownCap w1 s'.size 0 e)).size, (bytesRow s' (grownCap w1 s'.size 0 e)).size + 1))) :
  (Extern.BytealgCompare.compare #[.slice (some ⟨w0.heap.size, 0, none⟩) s.size (grownCap w0 s.size 0 e), .slice (some ⟨w1.heap.size, 0, none⟩) s'.size (grownCap w1 s'.size 0 e)]).run P w2 = .ok (.int .i64 (Lib.compareBytes s.data.toList s'.data.toList)) w2 := by
 have r1 := RD_bytes w0 e s (fun b => b = w0.heap.size) hl rfl
 rw [← h1] at r1
 have r2 := RD_bytes w1 e s' (fun b => b = w1.heap.size) hl' rfl
 rw [← h2] at r2
 have hsz : w1.heap.size = w0.heap.size + 1 := by
  rw [h1]
  show (w0.heap.push _).size = _
  simp
 have hk : Keeps (fun b => b = w0.heap.size) w1 w2 := fun b hb => by
  rw [h2]
  show (w1.heap.push _)[b]? = _
  rw [Array.getElem?_push_lt (by rw [hsz]; have : b = w0.heap.size := hb; omega)]
  exact (Array.getElem?_eq_getElem _).symm
 have r1 := RD.keep hk (fun _ h => h) _ _ r1
 generalize Value.slice (some ⟨w0.heap.size, 0, none⟩) s.size (grownCap w0 s.size 0 e) = v1 at r1 ⊢
 generalize Value.slice (some ⟨w1.heap.size, 0, none⟩) s'.size (grownCap w1 s'.size 0 e) = v2 at r2 ⊢
 change Sem.run P (do pure (goInt (Extern.BytealgCompare.cmp (← Extern.Bytes.bytesOf v1) (← Extern.Bytes.bytesOf v2)))) w2 = _
 simp only [Sem.run_bind, bytes_loaded r1, bytes_loaded r2, Result.andThen_ok, Sem.run_pure]
 rw [Lib.cmp_eq, bstr_u8s, bstr_u8s]
 rfl
end Go.Ab
end
section
namespace Go.Ab
open Go.RowKit
open Classical in
noncomputable def anyP {κ α : Type} (m : List κ) (g : List κ → Option α) : Option α := if ∀ l, List.Perm l m → g l = g m then g m else none
theorem anyP_some {κ α : Type} {m : List κ} {g : List κ → Option α} {r : α} (h : anyP m g = some r) : ∀ l, List.Perm l m → g l = some r := by
 unfold anyP at h
 split at h
 ·rename_i hp
  exact fun l hl => (hp l hl).trans h
 ·cases h
theorem anyP_of {κ α : Type} {m : List κ} {g : List κ → Option α} {r : α} (h : ∀ l, List.Perm l m → g l = some r) : anyP m g = some r := by
 unfold anyP
 rw [if_pos (fun l hl => (h l hl).trans (h m (List.Perm.refl m)).symm)]
 exact h m (List.Perm.refl m)
def OR {β ρ : Type} (R : β → β → Prop) : Out β ρ → Out β ρ → Prop
 | .go b, .go b' => R b b'
 | .ret r, .ret r' => r = r'
 | _, _ => False
open Classical in
noncomputable def rangeR {κ β ρ : Type} (R : β → β → Prop) (f : κ → β → Option (Out β ρ)) (l : List κ) (b : β) : Option (Out β ρ) :=
 if ∀ l', List.Perm l' l → ∃ o' o, rangeL f l' b = some o' ∧ rangeL f l b = some o ∧ OR R o' o then rangeL f l b else none
theorem rangeR_some {κ β ρ : Type} {R : β → β → Prop} {f : κ → β → Option (Out β ρ)} {l : List κ} {b : β} {o : Out β ρ} (h : rangeR R f l b = some o) : ∀ l', List.Perm l' l → ∃ o', rangeL f l' b = some o' ∧ OR R o' o := by
 unfold rangeR at h
 split at h
 ·rename_i hp
  intro l' hl
  obtain ⟨o', o2, h1, h2, h3⟩ := hp l' hl
  rw [h] at h2
  injection h2 with h2
  exact ⟨o', h1, h2 ▸ h3⟩
 ·cases h
theorem rangeR_of {κ β ρ : Type} {R : β → β → Prop} {f : κ → β → Option (Out β ρ)} {l : List κ} {b : β} {o : Out β ρ} (h0 : rangeL f l b = some o) (h : ∀ l', List.Perm l' l → ∃ o', rangeL f l' b = some o' ∧ OR R o' o) : rangeR R f l b = some o := by
 unfold rangeR
 rw [if_pos (fun l' hl => by obtain ⟨o', h1, h2⟩ := h l' hl; exact ⟨o', o, h1, h0, h2⟩)]
 exact h0
theorem Sub.mperm {nt : Nat} {rts : List Nat} {l : List (Nat × V)} {h : List (Nat × Option Blk)} (id : Nat) {kd : TypeDesc} {l1 l2 : List (MKey × V)} (hp : l1.Perm l2) (hid : hlook h id = some (.mp kd l1)) : Sub (mk nt rts l h) (mk nt rts l ((id, some (.mp kd l2)) :: h)) :=
 .of fun fx a w E m => ⟨E, m.nt, m.slots, m.dfr, ⟨fun i k hk => by
  simp only [mk, hlook] at hk
  split at hk
  ·rename_i hi
   subst hi
   injection hk with hk
   subst hk
   obtain ⟨h1, h2, es, clock, h3, h4, l', h5, h6⟩ := m.ok.hold _ _ hid
   exact ⟨h1, fun p hq => h2 p (hp.mem_iff.2 hq), es, clock, h3, h4, l', h5.trans hp, h6⟩
  ·exact m.ok.hold i k hk, fun i j hi hj => m.ok.inj i j (ne i hi) (ne j hj), fun i hi => m.ok.apart i (ne i hi), m.ok.zlt, fun i hi => m.ok.xlt i (ne i hi)⟩, m.frame, fun i hi => m.mine i (ne i hi), m.z, m.roots⟩
where
 ne (i : Nat) (hi : hlook ((id, some (.mp kd l2)) :: h) i ≠ none) : hlook h i ≠ none := by
  by_cases e : i = id
  ·subst e
   rw [hid]; simp
  ·simp only [hlook] at hi
   rwa [if_neg e] at hi
theorem idx_take {α : Type} {xs : List α} {i : Int} {x : α} {n : Nat} (h : idx (xs.take n) i = some x) : ∃ k, i.toNat = k ∧ xs[k]? = some x ∧ 0 ≤ i ∧ i < (n : Int) ∧ i < xs.length := by
 obtain ⟨k, h1, h2, h3, h4⟩ := idx_some h
 rw [List.length_take] at h4
 rw [List.getElem?_take] at h2
 split at h2
 ·exact ⟨k, h1, h2, h3, by omega, by omega⟩
 ·cases h2
theorem encM_perm {κ α : Type} {kf : κ → MKey} {vf : α → V} {m m' : List (κ × α)} (h : m.Perm m') : (encM kf vf m).Perm (encM kf vf m') := h.map _
def D.wm : Option (TypeDesc × Bool) → D → D
 | some (kd, ag), .lit (.map none) => .mpi kd ag [] []
 | _, d => d
def wmL : List (Option (TypeDesc × Bool)) → List D → List D
 | o :: os, d :: ds => d.wm o :: wmL os ds
 | _, ds => ds
theorem RD.wm {w : World} {Z : Nat → Prop} {o : Option (TypeDesc × Bool)} {d : D} {v : Value} (h : RD w Z d v) : RD w Z (d.wm o) v := by
 unfold D.wm
 split
 ·exact .inl ⟨h.1, rfl, rfl⟩
 ·exact h
theorem RDs.wm {w : World} {Z : Nat → Prop} : ∀ {os : List (Option (TypeDesc × Bool))} {ds : List D} {vs : List Value}, RDs w Z ds vs → RDs w Z (wmL os ds) vs
 | [], [], _, h => h
 | [], _ :: _, _, h => h
 | _ :: _, [], _, h => h
 | _ :: _, _ :: _, _, ⟨v, r, h1, h2, h3⟩ => ⟨v, r, h1, RD.wm h2, RDs.wm h3⟩
theorem RDe.wm {w : World} {Z : Nat → Prop} {os : List (Option (TypeDesc × Bool))} : ∀ {es : List (List D)} {vs : List Value}, RDe w Z es vs → RDe w Z (es.map (wmL os)) vs
 | [], _, h => h
 | _ :: _, _, ⟨a, r, h1, h2, h3⟩ => ⟨a, r, h1, RDs.wm h2, RDe.wm h3⟩
theorem wmL_length : ∀ (os : List (Option (TypeDesc × Bool))) (ds : List D), (wmL os ds).length = ds.length
 | [], [] => rfl
 | [], _ :: _ => rfl
 | _ :: _, [] => rfl
 | _ :: os, _ :: ds => by unfold wmL; rw [List.length_cons, List.length_cons, wmL_length os ds]
theorem Sub.wmRow {S : St} (id : Nat) (os : List (Option (TypeDesc × Bool))) {T n : Nat} {es : List (List D)} (hH : S.hp id = some (.arr T n es)) : Sub S (S.setH id (some (.arr T n (es.map (wmL os))))) := .of fun fx a w E md => by
 obtain ⟨g1, g2, g3, g4, g5⟩ := md.ok.hold _ _ hH
 have g3' : ∀ e ∈ es.map (wmL os), e.length = n := fun e he => by
  obtain ⟨e', he', rfl⟩ := List.mem_map.1 he
  rw [wmL_length]; exact g3 e' he'
 rcases g5 with ⟨g6, rfl⟩ | ⟨hn, c, flat, k1, k2, k3, k4, k5, k6⟩
 ·have : S.setH id (some (.arr T n (([] : List (List D)).map (wmL os)))) = S := by
   unfold St.setH
   congr 1
   funext i
   by_cases hi : i = id
   ·subst hi; rw [if_pos rfl, hH]; rfl
   ·rw [if_neg hi]
  rw [this]
  exact ⟨E, md⟩
 ·exact ⟨E, md.wr hH hn ⟨rfl, rfl, rfl, Nat.le_refl _, fun _ _ _ => rfl⟩ ⟨g1, g2, g3', g4, .inr ⟨hn, c, flat, k1, by rw [List.length_map]; exact k2, k3, k4, RDe.wm k5, by rw [List.length_map]; exact k6⟩⟩⟩
attribute [simp] D.wm wmL
theorem Sub.wkRowTo {S : St} (id : Nat) {T n : Nat} {es es' : List (List D)} (hH : S.hp id = some (.arr T n es)) (he : (es.map fun e => e.map D.wk) = es') : Sub S (S.setH id (some (.arr T n es'))) := he ▸ Sub.wkRow id hH
theorem pure_lenD {P : Program} {S : St} {c : Call} {x : Operand} {T k e : TypeId} {ti : TI} {kd : TypeDesc} {ag : Bool} {ks : List MKey} {vs : List (List D)} (hcal : c.callee = .builtin .len) (ha : c.args = #[x]) (hty : c.argTypes = #[T])
  (hT : tyOf P T = some ti) (hd : ti.desc = .map k e) (hx : S.ev x = .d (.mpi kd ag ks vs)) : Pure P (.call c) S (.d (.lit (.int .i64 (ks.length : Int)))) := by
 intro E w ρ oo hoo ok hev
 have h1 := hev x
 rw [hx] at h1
 unfold execOp
 rw [hoo]
 rcases h1 with ⟨h1, rfl, _⟩ | ⟨b, es, clock, h1, hz, hb, _, _, es', hp, g1, _⟩
 ·refine ⟨_, ⟨rfl, rfl⟩, fun w' hg => ?_⟩
  have u1 := run_und hT w'
  rw [hd] at u1
  simp [resolve, hcal, ha, hty, invoke, builtin, Builtin.len_, u1, h1, goInt]
 ·have hl : es.size = ks.length := by
   have h2 : (es'.map (·.key)).length = (ks.map MKey.enc).length := by rw [g1]
   rw [List.length_map, List.length_map] at h2
   rw [← h2, hp.length_eq, Array.length_toList]
  refine ⟨_, ⟨rfl, rfl⟩, fun w' hg => ?_⟩
  have u1 := run_und hT w'
  rw [hd] at u1
  have hb' : w'.heap[b]? = some (.map es clock) := (hg.block _ (Array.getElem?_eq_some_iff.1 hb).1).trans hb
  simp [resolve, hcal, ha, hty, invoke, builtin, Builtin.len_, u1, h1, goInt, MapKept.run_getObj_map hb', hl]
variable {P : Program}
theorem AW.seqA {κ β ρ : Type} {S : St} {x y : Code} {m : List κ} {g : List κ → Option (Out β ρ)} {k : β → Option ρ} {r : ρ} {Q : Exit → St → Prop} (J : β → St) (h : anyP m (fun l => bindO (g l) k) = some r)
  (h1 : (∀ l, List.Perm l m → ∃ o, g l = some o ∧ bindO (some o) k = some r) → AW P x S (fun ex S' => ∃ o, bindO (some o) k = some r ∧ PostJ J r Q o ex S')) (h2 : ∀ b, k b = some r → AW P y (J b) Q) : AW P (.seq x y) S Q := by
 refine AW.seq ((h1 fun l hl => ?_).mono fun e S' ⟨o, ho, hp⟩ => ?_)
 ·have := anyP_some h l hl
  cases hg : g l with
  | none => rw [hg] at this; cases this
  | some o => rw [hg] at this; exact ⟨o, rfl, this⟩
 ·cases o with
  | go b =>
   obtain ⟨rfl, hp⟩ := hp
   exact .sub hp (h2 b ho)
  | ret r' =>
   injection ho with ho
   obtain ⟨he, hp⟩ := hp
   have hp := hp ho
   cases e with
   | normal => exact absurd rfl he
   | exit id => exact hp
   | goto l => exact hp
   | ret => exact hp
   | panic ch => exact hp
   | outgrown => exact hp
theorem AW.mapRR {κ β ρ : Type} {i0 i1 i2 B B2 : Nat} {lr : List Oper} {og on ox oe : Oper} {l2 : List Oper} {rest : Code} {S : St} {t k e : TypeId} {ti : TI} {x : Operand} {it tn te td : Nat} {kd : TypeDesc} {ag : Bool} {kf : κ → MKey} {vf : κ → List D} {m : List κ}
  {f : κ → β → Option (Out β ρ)} {b0 : β} {o : Out β ρ} {rr : ρ} {Q : Exit → St → Prop} (R : β → β → Prop) (n0 : Nat) (S1 : St) (J : Nat → β → St) (JB : β → St)
  (hr0 : lr.drop n0 = [og]) (h0 : Chain false P lr.toArray (lr.take n0) S (fun S' => Sub S' S1)) (hx : S1.ev x = .d (.mpi kd ag (m.map kf) (m.map vf)))
  (g1 : og.guard = none) (g2 : og.op = .range t x) (g3 : og.dst = some it) (hT : tyOf P t = some ti) (hd : ti.desc = .map k e)
  (n1 : on.guard = none) (n2 : on.op = .next (.tmp it) false) (n3 : on.dst = some tn) (x1 : ox.guard = none) (x2 : ox.op = .extract (.tmp tn) 0) (x3 : ox.dst = some te)
  (e1 : oe.guard = none) (e2 : oe.op = .entry (.tmp it)) (e3 : oe.dst = some td) (hnt : ∀ r b, tn < (J r b).nt ∧ te < (J r b).nt ∧ tn ≠ te ∧ tn ≠ it ∧ te ≠ it)
  (hJ : ∀ r b, (J r b).sl it = .d (.lit (itv r)) ∧ (J r b).sl tn = .junk ∧ (J r b).sl te = .junk) (hJ0 : ∀ r, Sub (S1.put (some it) (.d (.lit (itv r)))) (J r b0)) (hJB : ∀ r b, Sub (J r b) (JB b))
  (h : rangeR R f m b0 = some o) (hR : ∀ b b', R b b' → Sub (JB b) (JB b'))
  (round : ∀ r x b o', f x b = some o' → Chain false P (oe :: l2).toArray l2 ((J r b).put (some td) (.tup [.d (.lit (kf x).enc), mvalV ag (vf x)])) (fun S' => AW P rest S' (blockQ B2 (PostR2 (J r) rr Q o'))))
  (hd0 : noDefer lr = true := by rfl) (hd1 : noDefer [on, ox] = true := by rfl) (hd2 : noDefer (oe :: l2) = true := by rfl) :
  AW P (.seq (.region i0 lr.toArray false) (.block B (.loop (.seq (.region i1 [on, ox].toArray false) (.seq (.cond (.tmp te) .skip (.exit B)) (.block B2 (.seq (.region i2 (oe :: l2).toArray false) rest))))))) S (PostJ JB rr Q o) :=
 (AW.mapL (rr := rr) (Q := Q) (fun o' => OR R o' o) n0 S1 J JB hr0 h0 hx g1 g2 g3 hT hd n1 n2 n3 x1 x2 x3 e1 e2 e3 hnt hJ hJ0 hJB (rangeR_some h) round hd0 hd1 hd2).mono fun ex S' ⟨o', ho, hp⟩ => by
  cases o' with
  | go b =>
   cases o with
   | go b' => exact ⟨hp.1, Sub.trans hp.2 (hR _ _ ho)⟩
   | ret r => exact ho.elim
  | ret r =>
   cases o with
   | go b' => exact ho.elim
   | ret r' =>
    have ho : r = r' := ho
    exact ho ▸ hp
end Go.Ab
end
section
namespace Go.Ab
open Go.RowKit
section
variable {P : Program} {α β ρ : Type}
end
end Go.Ab
end
section
namespace Go.Ab
open Go.RowKit
end Go.Ab
end
section
namespace Go.Ab
open Go.RowKit
theorem rnmL_map {α : Type} {f : α → V} {g : α → D} (h : ∀ x, f x = .d (g x)) (ρ : List (Nat × Nat)) : ∀ xs : List α, rnmL ρ (xs.map f) = some (xs.map f)
 | [] => rfl
 | x :: xs => by
  rw [List.map_cons]
  unfold rnmL
  rw [rnmL_map h ρ xs, h x]
  rfl
@[simp] theorem rnmL_vB (ρ : List (Nat × Nat)) (xs : List Bool) : rnmL ρ (xs.map vB) = some (xs.map vB) := rnmL_map (g := dB) (fun _ => rfl) ρ xs
end Go.Ab
end
section
namespace Go.Ab
open Go.RowKit
theorem Sub.holeCell {S : St} {bid j : Nat} {cs : List V} {c : V} (hcs : S.hp bid = some (.box cs)) (hj : cs[j]? = some c) : Sub S (S.setH bid (some (.box (cs.set j .hole)))) := .of fun fx a w E m => by
 obtain ⟨hnil, h1, vs, h2, h3, h4, h5⟩ := m.ok.hold bid _ hcs
 obtain ⟨v, hv, hrv⟩ := RVs_get h2 hj
 have hc1 : v.oneCell' = true := RV_cell hrv (h1 c (List.mem_of_getElem? hj))
 refine ⟨_, m.wr (id := bid) (k0 := .box cs) hcs hnil ⟨rfl, rfl, rfl, Nat.le_refl _, fun _ _ _ => rfl⟩ ⟨hnil, fun c hc => ?_, vs, RVs_setAt h2 hv hc1, h3, h4, h5⟩⟩
 rcases List.mem_or_eq_of_mem_set hc with hc | rfl
 ·exact h1 c hc
 ·rfl
def FunMP {α : Type} (P : Program) (f : FuncId) (args : List V) (h0 : List (Nat × Option Blk)) (rts : List Nat) (ok : α → Prop) (v : α → V) (h1 : List (Nat × Blk)) : Prop :=
 Ctr P f args (hlook h0) rts (fun r H => ∃ a, ok a ∧ r = v a ∧ ∀ q ∈ h1, H q.1 = some q.2)
def FinFP {α : Type} (P : Program) (fn : Func) (ok : α → Prop) (v : α → V) (h1 : List (Nat × Blk)) (e : Exit) (S : St) : Prop := ∃ a, ok a ∧ FinF P fn (v a) h1 e S
theorem FunMP.enter {α : Type} {P : Program} {f : FuncId} {fn : Func} {c : Code} {args : List V} {h0 : List (Nat × Option Blk)} {rts : List Nat} {ok : α → Prop} {v : α → V} {h1 : List (Nat × Blk)} (nt : Nat) (l : List (Nat × V)) (hf : P.funcs[f]? = some fn) (hb : fn.body = some c) (hle : args.length ≤ fn.ntmps) (hn : fn.ntmps = nt) (hl : enterL args 0 = l)
  (h : AW P c (mk nt rts l h0) (FinFP P fn ok v h1)) : FunMP P f args h0 rts ok v h1 := by
 subst hn; subst hl
 exact Ctr.of hf hb hle (h.mono fun e S ⟨a, ha, h1, h2, h3⟩ => ⟨h1, v a, h2, a, ha, rfl, h3⟩)
theorem Chain.callFP {α : Type} {P : Program} {ops : Array Oper} {o : Oper} {l : List Oper} {S : St} {Q' : St → Prop} {c : Call} {f : FuncId} {caps args : List V} {rts : List Nat} {h0 : List (Nat × Option Blk)} {ok : α → Prop} {v : α → V} {h1 : List (Nat × Blk)} (hF : FunMP P f args h0 rts ok v h1)
  (lent : List (Nat × Nat)) (rt : List Nat) (pl : List (Nat × Nat)) (bl : List (Nat × Blk)) (r' : α → V)
  (hw : wantedV ops S o = some true) (ho : o.op = .call c)
  (hcal : calleeV S c = some (f, caps)) (hargs : rnmL lent (c.args.toList.map S.ev ++ caps) = some args) (hks : (lent.map (·.1)).Nodup) (hcs : (lent.map (·.2)).Nodup)
  (hlent : ∀ p ∈ lent, ∃ b b', S.hp p.1 = some b ∧ b.rnm lent = some b' ∧ hlook h0 p.2 = some b') (honly : ∀ q ∈ h0, ∃ p ∈ lent, p.2 = q.1)
  (hent : Rp.Enters P f)
  (hp1 : (pl.map (·.1)).Nodup) (hp2 : (pl.map (·.2)).Nodup) (hhere : ∀ p ∈ pl, ∃ b, (p.1, b) ∈ h1)
  (hroot : ∀ p ∈ pl, (rt.contains p.2 = true ∧ (p.2, p.1) ∈ lent ∧ p.1 ∈ rts) ∨ (rt.contains p.2 = false ∧ p.2 ∉ S.rts))
  (hblk : ∀ q ∈ bl, ∃ c b, (c, q.1) ∈ pl ∧ (c, b) ∈ h1 ∧ b.rnm pl = some q.2) (hres : ∀ a, (v a).rnm pl = some (r' a))
  (hrest : ∀ a, ok a → Chain false P ops l (S.after lent rt pl bl o.dst (r' a)) Q') : Chain false P ops (o :: l) S Q' := by
 refine Chain.callMG lent rt hw (.value hcal hent ho) hargs hks hcs hlent honly hF fun r H1 ⟨a, ha, hr, hh⟩ => ⟨pl, bl, r' a, ⟨hp1, hp2, fun p hp => ?_, hroot, fun q hq => ?_, by rw [hr]; exact hres a⟩, hrest a ha⟩
 ·obtain ⟨b, hb⟩ := hhere p hp
  rw [hh _ hb]; simp
 ·obtain ⟨c, b, h2, h3, h4⟩ := hblk q hq
  exact ⟨c, b, h2, hh _ h3, h4⟩
def Reord (α : Type) : Type := { σ : List α → List α // ∀ l, (σ l).Perm l }
def Reord.id {α : Type} : Reord α := ⟨fun l => l, fun _ => .refl _⟩
open Classical in
noncomputable def Reord.at {α : Type} (l l' : List α) (h : l'.Perm l) : Reord α := ⟨fun x => if x = l then l' else x, fun x => by
 dsimp only
 by_cases e : x = l
 ·rw [if_pos e, e]; exact h
 ·rw [if_neg e]⟩
theorem Reord.at_self {α : Type} {l l' : List α} (h : l'.Perm l) : (Reord.at l l' h).1 l = l' := by
 unfold Reord.at; exact if_pos rfl
end Go.Ab
end
section
namespace Go.Ab
open Go.RowKit
section
variable {P : Program} {S : St} {σ β ρ γ : Type}
def PostJG (J : γ → β → St) (r : ρ) (Q : Exit → St → Prop) : Out β ρ → Exit → St → Prop
 | .go b, e, S => e = .normal ∧ ∃ g, Sub S (J g b)
 | .ret r', e, S => e ≠ .normal ∧ (r' = r → Q e S)
theorem PostJG.next {J : γ → β → St} {r : ρ} {Q : Exit → St → Prop} {b : β} (g : γ) (h : Sub S (J g b)) : PostJG J r Q (.go b) .normal S := ⟨rfl, g, h⟩
theorem PostJG.out {J : γ → β → St} {r r' : ρ} {Q : Exit → St → Prop} {e : Exit} (he : e ≠ .normal) (h : r' = r → Q e S) : PostJG J r Q (.ret r') e S := ⟨he, h⟩
theorem AW.lastJG {x : Code} {d : Option (Out β ρ)} {k : β → Option ρ} {r : ρ} {Q : Exit → St → Prop} (J : γ → β → St) (h : bindO d k = some r) (h1 : ∀ o, d = some o → AW P x S (PostJG J r Q o))
  (h2 : ∀ g b, k b = some r → Q .normal (J g b)) : AW P x S Q := by
 cases hd : d with
 | none => rw [hd] at h; cases h
 | some o =>
  rw [hd] at h
  refine (h1 o hd).mono2 fun e S' hp => ?_
  cases o with
  | go b =>
   obtain ⟨rfl, g, hp⟩ := hp
   exact ⟨_, hp, h2 g b h⟩
  | ret r' =>
   injection h with h
   exact ⟨_, Sub.refl _, hp.2 h⟩
theorem AW.seqNG {x y : Code} {d : Option β} {k : β → Option ρ} {r : ρ} {Q : Exit → St → Prop} (J : γ → β → St) (h : d.bind k = some r) (h1 : ∀ o, d = some o → AW P x S (PostNG J o))
  (h2 : ∀ g b, k b = some r → AW P y (J g b) Q) : AW P (.seq x y) S Q := by
 obtain ⟨b, hd, hk⟩ := bsome h
 refine AW.seq ((h1 b hd).mono fun e S' hp => ?_)
 obtain ⟨rfl, g, hp⟩ := hp
 exact .sub hp (h2 g b hk)
end
theorem Chain.appFront {α : Type} (cf : α → List D) (G L Y : List α) {P : Program} {ops : Array Oper} {o : Oper} {l : List Oper} {S : St} {Q : St → Prop} {c : Call} {s x : Operand} {t e : TypeId} {tt te : TI} {id : Nat} (hw : wantedV ops S o = some true) (ho : o.op = .call c)
  (hc : c.callee = .builtin .append) (hca : c.args = #[s, x]) (hct : c.argTypes = #[t, t]) (hT : tyOf P t = some tt) (hd : tt.desc = .slice e) (he : tyOf P e = some te)
  (hs : S.ev s = .ref id G.length L.length) (hid : id ∉ S.rts) (hH : S.hp id = some (.arr e te.size ((G ++ L).map cf))) (hx : srcV S.hp (S.ev x) = some (Y.map cf)) (hall : ∀ a, (cf a).length = te.size) (hpos : 0 < te.size) (hpb : 0 < te.bytes) (hzc : te.zero.cells.size = te.size)
  (hbytes : (L.length + Y.length) * te.bytes ≤ Rp.reach)
  (h : ∀ g : List α, Chain false P ops l (((S.kill id).setH id (some (.arr e te.size ((g ++ (L ++ Y)).map cf)))).put o.dst (.ref id g.length (L ++ Y).length)) Q) : Chain false P ops (o :: l) S Q := by
 refine Chain.appOff (off := G.length) (len := L.length) hw ho hc hca hct hT hd he hs hid hH hx (fun y hy => ?_) (by simp) hpos hpb hzc (by rw [List.length_map]; exact hbytes) ?_ ?_
 ·obtain ⟨a, _, rfl⟩ := List.mem_map.1 hy
  exact hall a
 ·have h1 := h G
  rw [← List.append_assoc, List.map_append, List.length_append] at h1
  rw [List.length_map]
  exact h1
 ·have h1 := h []
  rw [List.nil_append, List.map_append, List.length_append, List.length_nil] at h1
  rw [List.length_map, List.map_append, List.drop_left' (by simp)]
  exact h1
@[simp] theorem front_get {α β : Type} (c : α → β) (g l : List α) (k : Nat) : (List.map c g ++ List.map c l)[g.length + k]? = (List.map c l)[k]? := by
 rw [List.getElem?_append_right (by simp)]
 simp
theorem AW.regionAnyG {γ : Type} {P : Program} {S : St} {Q : Exit → St → Prop} {id : Nat} {l : List Oper} (anc : List (List Nat)) (I : γ → (Nat → Bool) → St) (hm : P.follows .mixedOrders = true) (hA : ancB l.toArray anc = true)
  (g0 : γ) (h0 : Sub S (I g0 fun _ => false))
  (hstep : ∀ i o, l.toArray[i]? = some o → ∀ (g : γ) (b : Nat → Bool), b i = false → (∀ j, j ∈ anc.getD i [] → b j = true) → (∀ k, i ∈ anc.getD k [] → b k = false) → Chain false P l.toArray [o] (I g b) (fun S' => ∃ g', Sub S' (I g' (updB b i))))
  (hend : ∀ (g : γ) (b : Nat → Bool), (∀ i, i < l.length → b i = true) → ∃ S1, Sub (I g b) S1 ∧ Q .normal S1) (hd : noDefer l = true := by rfl) : AW P (.region id l.toArray true) S Q := by
 intro fx a w hM
 refine Code.wpIn_mono (fun e a w h => by obtain ⟨rfl, h⟩ := h; exact h) (rd_region_any (Q := Aft fx Q .normal) hd hm ?_)
 have hM' : Models fx S a { w with drawn := w.drawn + 1 } := by
  obtain ⟨E, m⟩ := hM
  exact ⟨E, m.grow ⟨rfl, rfl, rfl, Nat.le_refl _, fun _ _ => rfl⟩⟩
 have hback : ∀ i j, i < l.toArray.size → waitsB l.toArray i j = true → j < i := fun i j hi hw => by
  unfold ancB at hA
  simp only [Bool.and_eq_true, List.all_eq_true, List.mem_range] at hA
  have hj : j < l.toArray.size := by
   unfold waitsB at hw
   rw [Array.getElem?_eq_getElem hi] at hw
   simp only [Array.any_eq_true'] at hw
   obtain ⟨e, he, hb⟩ := hw
   rw [Bool.and_eq_true, beq_iff_eq] at hb
   have h2 := hA.1.2
   rw [Array.all_eq_true_iff_forall_mem] at h2
   have h3 := h2 _ (Array.getElem_mem hi)
   rw [Array.all_eq_true_iff_forall_mem] at h3
   have := h3 e he
   rw [← hb.2]
   exact of_decide_eq_true this
  have := hA.1.1 i hi j hj
  rw [hw] at this
  simpa using this
 have hclos : ∀ i j, i < l.toArray.size → j ∈ anc.getD i [] → waitsB l.toArray i j = true ∨ ∃ k, waitsB l.toArray i k = true ∧ j ∈ anc.getD k [] := fun i j hi hj => by
  unfold ancB at hA
  simp only [Bool.and_eq_true, List.all_eq_true, List.mem_range] at hA
  have := hA.2 i hi j hj
  rw [Bool.or_eq_true, List.any_eq_true] at this
  rcases this with h | ⟨k, _, h⟩
  ·exact .inl h
  ·rw [Bool.and_eq_true] at h
   exact .inr ⟨k, h.1, by simpa using h.2⟩
 have key : ∀ (n : Nat) (listed : Array Bool) (a : Act) (w : World), listed.size = l.toArray.size → (listed.toList.countP (· = false)) = n → (∀ i, listed.getD i false = true → ∀ j ∈ anc.getD i [], listed.getD j false = true) → (∃ g, Models fx (I g fun j => listed.getD j false) a w) →
   wpAny P .any l.toArray (NQ (Aft fx Q .normal)) n listed a w := by
  intro n
  induction n with
  | zero =>
   intro listed a w hs hn hinv hM
   have hall : ∀ i, i < l.length → listed.getD i false = true := fun i hi => by
    have hi' : i < listed.size := by rw [hs]; simpa using hi
    rw [List.countP_eq_zero] at hn
    have := hn listed[i] (by simp)
    simpa [Array.getD, hi'] using this
   have hready : Region.ready .any l.toArray listed = [] := by
    rw [List.eq_nil_iff_forall_not_mem]
    intro i hi
    obtain ⟨h1, h2, _⟩ := ready_mem hi
    have h3 := hall i (by simpa using h1)
    have hi' : i < listed.size := by rw [hs]; exact h1
    simp [Array.getD, hi'] at h2 h3
    rw [h2] at h3; cases h3
   refine ⟨hready, ?_⟩
   obtain ⟨g, hM⟩ := hM
   obtain ⟨S1, hs1, hq⟩ := hend g _ hall
   exact ⟨rfl, Aft.one hq (hs1 _ _ _ hM)⟩
  | succ n ih =>
   intro listed a w hs hn hinv hM
   refine ⟨fun hnil => ?_, fun i hi => ?_⟩
   ·exfalso
    have hex : ∃ i, i < listed.size ∧ listed.getD i true = false := by
     have : 0 < listed.toList.countP (· = false) := by omega
     rw [List.countP_pos_iff] at this
     obtain ⟨x, hx, hxf⟩ := this
     obtain ⟨i, hi, rfl⟩ := List.getElem_of_mem hx
     have hi' : i < listed.size := by simpa using hi
     exact ⟨i, hi', by simpa [Array.getD, hi'] using hxf⟩
    obtain ⟨i, ⟨hi1, hi2⟩, hleast⟩ := exists_least _ hex
    have : i ∈ Region.ready .any l.toArray listed := by
     unfold Region.ready
     rw [List.mem_filter]
     have hlt : i < l.toArray.size := by rw [← hs]; exact hi1
     refine ⟨List.mem_range.2 hlt, ?_⟩
     rw [hi2, Array.getElem?_eq_getElem hlt]
     simp only [Bool.not_false, Bool.true_and, Option.map_some, Option.getD_some, Array.all_eq_true_iff_forall_mem]
     intro e he
     cases hb : Region.binds .any e with
     | false => rfl
     | true =>
      have hwt : waitsB l.toArray i e.on = true := by
       unfold waitsB
       rw [Array.getElem?_eq_getElem hlt]
       simp only [Array.any_eq_true']
       exact ⟨e, he, by simp [hb]⟩
      have hon : e.on < i := hback i e.on hlt hwt
      have hon2 : e.on < listed.size := by omega
      cases hl : listed.getD e.on true with
      | false => exact absurd (hleast e.on ⟨hon2, hl⟩) (by omega)
      | true => simpa [Array.getD, hon2] using hl
    rw [hnil] at this
    cases this
   ·obtain ⟨hlt, hun, o, ho, hw⟩ := ready_mem hi
    have hi' : i < listed.size := by rw [hs]; exact hlt
    have hbi : listed.getD i false = false := by simp [Array.getD, hi'] at hun ⊢; exact hun
    have hanc : ∀ j, j ∈ anc.getD i [] → listed.getD j false = true := fun j hj => by
     rcases hclos i j hlt hj with h | ⟨k, h1, h2⟩
     ·exact hw j h
     ·exact hinv k (hw k h1) j h2
    have hdesc : ∀ k, i ∈ anc.getD k [] → listed.getD k false = false := fun k hk => by
     cases hlk : listed.getD k false with
     | false => rfl
     | true => rw [hinv k hlk i hk] at hbi; cases hbi
    obtain ⟨g, hM⟩ := hM
    have hch := hstep i o ho g (fun j => listed.getD j false) hbi hanc hdesc fx a w
     (atN (wpAny P .any l.toArray (NQ (Aft fx Q .normal)) n (listed.setIfInBounds i true)) (NQ (Aft fx Q .normal))) hM (fun S' a' w' ⟨g', hsub⟩ hM' => by
      show wpAny P .any l.toArray (NQ (Aft fx Q .normal)) n (listed.setIfInBounds i true) a' w'
      refine ih _ _ _ (by simpa using hs) ?_ ?_ ?_
      ·have : (listed.setIfInBounds i true).toList = listed.toList.set i true := by simp
       have hv : listed.toList[i]'(by simpa using hi') = false := by simpa [Array.getD, hi'] using hbi
       rw [this, List.countP_set (by simpa using hi'), hv, if_pos (by decide), if_neg (by decide)]
       omega
      ·intro k hk j hj
       rw [getD_set hi'] at hk ⊢
       by_cases hki : k = i
       ·subst hki
        have := hanc j hj
        split
        ·rfl
        ·exact this
       ·rw [if_neg hki] at hk
        split
        ·rfl
        ·exact hinv k hk j hj
      ·have he : (fun j => (listed.setIfInBounds i true).getD j false) = updB (fun j => listed.getD j false) i := by
        funext j
        rw [getD_set hi']; rfl
       rw [he]
       exact ⟨g', hsub _ _ _ hM'⟩)
    unfold wpOp
    simp only [ho]
    unfold wpList at hch
    by_cases hwt : Region.wanted o (yielded l.toArray a.tmps) = true
    ·rw [if_pos hwt] at hch ⊢
     rcases hch with hch | ⟨h1, a1, w1, h2⟩
     ·exact .inl (Oper.wp_other (fun e a w he h => atN_other he h) (Oper.wp_mono (fun a w h => h) hch))
     ·exact .inr ⟨h1, a1, w1, h2⟩
    ·rw [if_neg hwt] at hch ⊢
     exact hch
 refine key (l.toArray.size) (Array.replicate l.toArray.size false) a _ (by simp) (by rw [Array.toList_replicate, List.countP_replicate, if_pos (by decide)]) (fun i hi => ?_) ?_
 ·simp [Array.getD] at hi
 ·have : (fun j => (Array.replicate l.toArray.size false).getD j false) = fun _ => false := by
   funext j
   simp [Array.getD]
  rw [this]
  exact ⟨g0, h0 _ _ _ hM'⟩
def StepsG {γ : Type} (P : Program) (ops : Array Oper) (anc : List (List Nat)) (I : γ → (Nat → Bool) → St) : Nat → List Oper → Prop
 | _, [] => True
 | i, o :: l => (∀ (g : γ) (b : Nat → Bool), b i = false → (∀ j, j ∈ anc.getD i [] → b j = true) → (∀ k, i ∈ anc.getD k [] → b k = false) → Chain false P ops [o] (I g b) (fun S' => ∃ g', Sub S' (I g' (updB b i)))) ∧ StepsG P ops anc I (i + 1) l
theorem StepsG.nil {γ : Type} {P : Program} {ops : Array Oper} {anc : List (List Nat)} {I : γ → (Nat → Bool) → St} {i : Nat} : StepsG P ops anc I i [] := trivial
theorem StepsG.cons {γ : Type} {P : Program} {ops : Array Oper} {anc : List (List Nat)} {I : γ → (Nat → Bool) → St} {i : Nat} {o : Oper} {l : List Oper}
  (h : ∀ (g : γ) (b : Nat → Bool), b i = false → (∀ j, j ∈ anc.getD i [] → b j = true) → (∀ k, i ∈ anc.getD k [] → b k = false) → Chain false P ops [o] (I g b) (fun S' => ∃ g', Sub S' (I g' (updB b i)))) (h2 : StepsG P ops anc I (i + 1) l) : StepsG P ops anc I i (o :: l) := ⟨h, h2⟩
theorem StepsG.get {γ : Type} {P : Program} {ops : Array Oper} {anc : List (List Nat)} {I : γ → (Nat → Bool) → St} : ∀ {l : List Oper} {k : Nat}, StepsG P ops anc I k l → ∀ i o, l[i]? = some o → ∀ (g : γ) (b : Nat → Bool), b (k + i) = false → (∀ j, j ∈ anc.getD (k + i) [] → b j = true) → (∀ q, (k + i) ∈ anc.getD q [] → b q = false) → Chain false P ops [o] (I g b) (fun S' => ∃ g', Sub S' (I g' (updB b (k + i))))
 | [], _, _, i, o, h => by simp at h
 | x :: l, k, hs, 0, o, h => by
  simp at h; subst h
  exact hs.1
 | x :: l, k, hs, i + 1, o, h => by
  have := hs.2.get i o (by simpa using h)
  rw [show k + (i + 1) = k + 1 + i by omega]
  exact this
theorem AW.lastAnyG {γ : Type} {P : Program} {S : St} {Q : Exit → St → Prop} {id : Nat} {l : List Oper} (anc : List (List Nat)) (I : γ → (Nat → Bool) → St) (S1 : γ → St) (hm : P.follows .mixedOrders = true) (hA : ancB l.toArray anc = true)
  (g0 : γ) (h0 : Sub S (I g0 fun _ => false)) (hstep : StepsG P l.toArray anc I 0 l)
  (hend : ∀ (g : γ) (b : Nat → Bool), (∀ i, i < l.length → b i = true) → Sub (I g b) (S1 g)) (hy : ∀ g, Q .normal (S1 g)) (hd : noDefer l = true := by rfl) : AW P (.region id l.toArray true) S Q :=
 .regionAnyG anc I hm hA g0 h0 (fun i o ho => by have := hstep.get i o (by simpa using ho); rw [Nat.zero_add] at this; exact this) (fun g b hb => ⟨S1 g, hend g b hb, hy g⟩) hd
end Go.Ab
end
section
namespace Go.Ab
open Go.RowKit
theorem Chain.rk {P : Program} {ops : Array Oper} {l : List Oper} {S : St} {Q : St → Prop} (n : Nat) (h : ∀ K : List Oper → St → Prop, (∀ {l' S'}, Chain false P ops l' S' Q → K l' S') → thenK K (Ab.runM (tyOf P) [] ops n l S)) : Chain false P ops l S Q := .runK [] n fun K k => h K fun h => k _ _ h
theorem Chain.rq {q : Bool} {P : Program} {ops : Array Oper} {l : List Oper} {S : St} {Q : St → Prop} (n : Nat) (h : ∀ K : List Oper → St → Prop, (∀ {l' S'}, Chain q P ops l' S' Q → K l' S') → thenK K (Ab.runN (tyOf P) ops n l S)) : Chain q P ops l S Q := .runQ n fun K k => h K fun h => k _ _ h
@[simp] def FA (b : Nat → Bool) : Nat → Prop
  | 0 => True
  | n + 1 => b n = true ∧ FA b n
theorem FA_of {b : Nat → Bool} : ∀ {n : Nat}, (∀ i, i < n → b i = true) → FA b n
  | 0, _ => trivial
  | n + 1, h => ⟨h n (Nat.lt_succ_self n), FA_of fun i hi => h i (Nat.lt_succ_of_lt hi)⟩
theorem csome {n : Int} {β : Type} {k : Int → Option β} {r : β} (h : (chkI n).bind k = some r) : ∃ v, IntKind.i64.wrap n = v ∧ k v = some r := by
  obtain ⟨v, h1, h2⟩ := bsome h
  exact ⟨v, chkI_some h1, h2⟩
theorem xsome {α β : Type} {xs : List α} {i : Int} {k : α → Option β} {r : β} (h : (idx xs i).bind k = some r) : ∃ x n, i.toNat = n ∧ xs[n]? = some x ∧ 0 ≤ i ∧ i < xs.length ∧ k x = some r := by
  obtain ⟨x, h1, h2⟩ := bsome h
  obtain ⟨n, h3, h4, h5, h6⟩ := idx_some h1
  exact ⟨x, n, h3, h4, h5, h6, h2⟩
end Go.Ab
end
section
namespace Go.Ab
open Go.RowKit
inductive Ran : Option (List Oper × St) → List Oper → St → Prop
  | mk {l : List Oper} {S : St} : Ran (some (l, S)) l S
theorem Chain.rr {P : Program} {ops : Array Oper} {l l' : List Oper} {S S' : St} {Q : St → Prop} (n : Nat) (h : Chain false P ops l' S' Q) (e : Ran (Ab.runM (tyOf P) [] ops n l S) l' S' := by simp; exact .mk) : Chain false P ops l S Q := by
 refine .rk n fun K k => ?_
 generalize Ab.runM (tyOf P) [] ops n l S = o at e ⊢
 cases e
 exact k h
theorem thenQ_ps {K : St → Prop} {S : St} {Q : Exit → St → Prop} {e : Exit} (h : Q e S) (he : e ≠ .normal := by simp) : thenQ K Q e S := thenQ_pass he h
theorem FinC.rs {P : Program} {fn : Func} {v : V} {S : St} (h1 : v.closed = true := by simp) (h2 : outV (tyOf P) fn.results.toList S = some v := by simp) : FinC P fn v .ret S := .ret h1 h2
theorem PostI.os {σ ρ : Type} {S : St} {I : σ → St} {r r' : ρ} {Q : Exit → St → Prop} {e : Exit} (h : r' = r → Q e S) (he : e ≠ .normal := by simp) : PostI I r Q (.inr r') e S := .out he h
theorem Sub.tT {nt : Nat} {rts : List Nat} {l l' : List (Nat × V)} {h h' : List (Nat × Option Blk)} (hl : ∀ p ∈ l', p.2 = tlook l p.1 := by simp [T]) (hh : ∀ p ∈ h', p.2 = hlook h p.1 := by simp [T]) : Sub (mk nt rts l h) (mk nt rts l' h') := .table hl hh
end Go.Ab
end
