/- The abstract machine: nil slices in boxes as rows without elements. The abstract machine: the library's sort of strings on an own row. The abstract machine: looks through rows within rows, nil tests of own rows, ranges over maps. The abstract machine: append of a row near the bound (growslice's own). -/
import Derived.Test.YtifcmomjjkbboabA3
import Derived.Maps.RangeRun
import Derived.Sort.LoopGhostIn
import Derived.Deep.DeepAppendWide
section
namespace Go.Ab
open Go.RowKit

/-! ### functions that hand back new data only -/
def flatSh : List (Option (TypeId × Nat)) → List D → Prop
 | [], [] => True
 | none :: sh, d :: ds => d.flat = true ∧ flatSh sh ds
 | some _ :: sh, .sl ys :: ds => (∀ y ∈ ys, ∀ x ∈ y, x.flat = true) ∧ flatSh sh ds
 | _, _ => False
def flatN : Blk → Prop
 | .arr _ _ es => ∀ e ∈ es, ∀ x ∈ e, x.flat = true
 | .nest _ _ sh es fo => fo = [] ∧ ∀ e ∈ es, flatSh sh e
 | _ => False
theorem flatN_arr {α : Type} {T n : Nat} {c : α → List D} (h : ∀ a, ∀ x ∈ c a, x.flat = true) (xs : List α) : flatN (.arr T n (xs.map c)) :=
 fun e he => by obtain ⟨a, _, rfl⟩ := List.mem_map.1 he; exact h a
theorem RNs.toFlat {w : World} {Z Z' : Nat → Prop} : ∀ (sh : List (Option (TypeId × Nat))) (ds : List D) (vs : List Value) (ls : List Loc), flatSh sh ds → RNs w Z sh ds vs ls → RNs w Z' sh ds vs ls
 | [], ds, vs, ls, _, h => h
 | none :: sh, ds, vs, ls, hf, ⟨d, ds', v, r, h1, h2, h3, h4⟩ => by
  subst h1
  refine ⟨d, ds', v, r, rfl, h2, ?_, RNs.toFlat sh ds' r ls hf.2 h4⟩
  have := hf.1
  cases d <;> first | exact h3 | (simp [D.flat] at this)
 | some (T, n) :: sh, ds, vs, ls, hf, ⟨es, ds', v, r, ℓ, ls', h1, h2, h3, ⟨h4, h5⟩, h6⟩ => by
  subst h1
  obtain ⟨a1, a2, a3, a4, a5⟩ := h5
  refine ⟨es, ds', v, r, ℓ, ls', rfl, h2, h3, ⟨h4, a1, a2, a3, a4, a5.imp (fun h => h) ?_⟩, RNs.toFlat sh ds' r ls' hf.2 h6⟩
  rintro ⟨b0, c, flat, b1, b2, b3, b4, b5, b6⟩
  exact ⟨b0, c, flat, b1, b2, b3, b4, RDe_flat hf.1 b5, b6⟩
theorem RNe.toFlat {E : Env} {ℓ : Loc} {Z' : Nat → Prop} {w : World} {sh : List (Option (TypeId × Nat))} : ∀ (k : Nat) (es : List (List D)) (vs : List Value) (ls : List Loc), (∀ e ∈ es, flatSh sh e) → RNe E w sh [] k es vs ls → RNe (oneE ℓ Z') w sh [] k es vs ls
 | _, [], _, _, _, h => h
 | k, e :: es, _, _, hf, ⟨a, r, la, lr, h1, h2, h3, h4⟩ => ⟨a, r, la, lr, h1, h2, RNs.toFlat sh e a la (hf e (.head _)) h3, RNe.toFlat (k + 1) es r lr (fun e he => hf e (.tail _ he)) h4⟩
theorem Hold.toFlatN {ℓ : Loc} {Z Z' : Nat → Prop} {w : World} {i : Nat} {k : Blk} (hf : flatN k) (h : Hold (oneE ℓ Z) w i k) : Hold (oneE ℓ Z') w i k := by
 cases k with
 | nest T n sh es fo =>
  obtain ⟨rfl, hf⟩ := hf
  obtain ⟨h1, h2, h3, h4, h5, h6, h7⟩ := h
  refine ⟨h1, h2, h3, h4, h5, h6, h7.imp (fun h => h) ?_⟩
  rintro ⟨b0, c, flat, ls, b1, b2, b3, b4, b5, b6, b7⟩
  exact ⟨b0, c, flat, ls, b1, b2, b3, b4, RNe.toFlat 0 es flat ls hf b5, b6, b7⟩
 | arr T n es => exact Hold.toFlat (k := .arr T n es) hf h
 | box cs => exact hf.elim
 | mp kd l => exact hf.elim

def viewR (H : Heap) : V → Option V
 | .tup cs => (mapO (viewV H) cs).map .tup
 | c => viewV H c
theorem viewR_sound {E : Env} {H : Heap} {w : World} (ok : E.ok H w) (E' : Env) (hE : E'.Z = (E.seen H).Z) (c c' : V) (v : Value) (h : RV E w c v) (hv : viewR H c = some c') : RV E' w c' v := by
 cases c with
 | tup cs =>
  obtain ⟨vs, h1, h2⟩ := h
  simp only [viewR] at hv
  cases hm : mapO (viewV H) cs with
  | none => simp [hm] at hv
  | some ds =>
   simp only [hm, Option.map_some, Option.some.injEq] at hv
   subst hv
   exact ⟨vs, h1, viewVs_sound ok E' hE h2 hm⟩
 | _ => exact viewV_sound ok E' hE _ _ _ h hv

/-- what comes back lies in new blocks alone -/
def FunF (P : Program) (f : FuncId) (args : List V) (v : V) : Prop := v.closed = true ∧
 ∀ (w : World) (Z : Nat → Prop) (vals : List Value), GW w → (∀ b, Z b → b < w.heap.size) → RVs (oneE default Z) w args vals → Calls P f vals.toArray w fun e w' =>
  ∃ x Zr, e = .returned x ∧ (∀ b, Zr b → w.heap.size ≤ b ∧ b < w'.heap.size) ∧ RV (oneE default Zr) w' v x ∧ Grow w w'
def only1 (id : Nat) (k : Blk) : Heap := fun i => if i = id then some k else none
def FinV (P : Program) (fn : Func) (v : V) (e : Exit) (S : St) : Prop :=
 (e = .normal ∨ e = .ret) ∧ v.closed = true ∧ ∃ r id k, outV (tyOf P) fn.results.toList S = some r ∧ r.only id = true ∧ r.flat = true ∧ S.hp id = some k ∧ flatN k ∧ viewR (only1 id k) r = some v
theorem FinV.ret {P : Program} {fn : Func} {v : V} {S : St} (r : V) (id : Nat) {k : Blk} (h1 : outV (tyOf P) fn.results.toList S = some r) (h2 : r.only id = true) (h3 : r.flat = true) (h4 : S.hp id = some k) (h5 : flatN k) (h6 : viewR (only1 id k) r = some v) (h7 : v.closed = true) : FinV P fn v .ret S :=
 ⟨.inr rfl, h7, r, id, k, h1, h2, h3, h4, h5, h6⟩

theorem FunF.enter {P : Program} {f : FuncId} {fn : Func} {c : Code} {args : List V} {v : V} (nt : Nat) (l : List (Nat × V)) (hc : v.closed = true) (hf : P.funcs[f]? = some fn) (hb : fn.body = some c) (hle : args.length ≤ fn.ntmps) (hn : fn.ntmps = nt) (hl : enterL args 0 = l)
  (h : AW P c (mk nt [] l []) (FinV P fn v)) : FunF P f args v := by
 subst hn; subst hl
 refine ⟨hc, ?_⟩
 intro w Z vals hg0 hz hv
 have hC := Ctr.of (P := P) (f := f) (args := args) (h0 := []) (rts := []) (Q := fun r H => ∃ id k, r.only id = true ∧ r.flat = true ∧ H id = some k ∧ flatN k ∧ viewR (only1 id k) r = some v) hf hb hle
  (h.mono fun e S ⟨h1, _, r, id, k, h2, h3⟩ => ⟨h1, r, h2, id, k, h3⟩)
 refine (hC w (oneE default Z) vals (hg0.go0 _ fun _ => rfl) ⟨fun id k hk => (by cases hk), fun i j hi => absurd rfl hi, fun i hi => absurd rfl hi, hz, fun i hi => absurd rfl hi⟩ hv).mono ?_
 rintro e w' ⟨x, E', r, H1, rfl, ⟨id, k, h1, h2, h3, h4, h5⟩, hr, hp⟩
 have hg : Grow w w' := ⟨hp.frame.os, hp.frame.tape, hp.frame.output, hp.frame.size, fun k hk => hp.frame.block k hk (fun ⟨i, hi, _⟩ => hi rfl)⟩
 have hi : H1 id ≠ none := by rw [h3]; simp
 have hr1 : RV (oneE (E'.loc id) E'.Z) w' r x := RV.only (E := E') (E' := oneE (E'.loc id) E'.Z) (id := id) (fun _ h => h) (fun i hi => rfl) r x h1 hr
 have hr2 : RV (oneE (E'.loc id) fun _ => False) w' r x := RV.toFlat r x h2 hr1
 have hh0 : Hold (oneE (E'.loc id) E'.Z) w' id k := by
  have := hp.ok.hold id _ h3
  cases k with
  | arr T n es => exact this
  | nest T n sh es fo =>
   obtain ⟨rfl, _⟩ := h4
   obtain ⟨q1, q2, q3, q4, q5, q6, q7⟩ := this
   refine ⟨q1, q2, q3, q4, q5, q6, q7.imp (fun h => h) ?_⟩
   rintro ⟨b0, c, flat, ls, b1, b2, b3, b4, b5, b6, b7⟩
   exact ⟨b0, c, flat, ls, b1, b2, b3, b4, RNe.z (E := E') (E' := oneE (E'.loc id) E'.Z) (fun _ h => h) 0 es flat ls b5, b6, b7⟩
  | box cs => exact h4.elim
  | mp kd l => exact h4.elim
 have hh : Hold (oneE (E'.loc id) fun _ => False) w' id k := hh0.toFlatN h4
 have one : ∀ i, only1 id k i ≠ none → i = id := fun i hi => by
  unfold only1 at hi
  by_cases e : i = id
  ·exact e
  ·rw [if_neg e] at hi; exact absurd rfl hi
 have ok0 : (oneE (E'.loc id) fun _ => False).ok (only1 id k) w' := by
  refine ⟨fun i k' hk => ?_, fun i j hi hj hij => absurd ((one i hi).trans (one j hj).symm) hij, fun i _ b _ hz => hz, fun b hz => hz.elim, fun i _ b hb => hp.ok.xlt id hi b hb⟩
  obtain rfl := one i (by rw [hk]; simp)
  unfold only1 at hk
  rw [if_pos rfl] at hk
  injection hk with hk
  subst hk
  exact hh
 refine ⟨x, ((oneE (E'.loc id) fun _ => False).seen (only1 id k)).Z, rfl, fun b hb => ?_, viewR_sound ok0 (oneE default _) rfl r v x hr2 h5, hg⟩
 rcases hb with hb | ⟨i, _, hb⟩
 ·exact hb.elim
 ·have hb : (E'.loc id).own b := hb
  refine ⟨?_, hp.ok.own_lt hi hb⟩
  rcases hp.mine id hi b hb with h | ⟨i, hi, _⟩
  ·exact h
  ·exact absurd rfl hi

/-- a call that hands back new data -/
theorem Chain.callFr {P : Program} {ops : Array Oper} {o : Oper} {l : List Oper} {S : St} {Q' : St → Prop} {c : Call} {d : Nat} {f : FuncId} {caps args : List V} {v : V} (hF : FunF P f args v) (hw : wantedV ops S o = some true) (ho : o.op = .call c) (hd : o.dst = some d)
  (hcal : calleeV S c = some (f, caps)) (hargs : mapO (viewV S.hp) (c.args.toList.map S.ev ++ caps) = some args) (hent : Rp.Enters P f) (hid : S.rts.contains d = false)
  (hrest : Chain false P ops l (((S.kill d).setH d none).put (some d) v) Q') : Chain false P ops (o :: l) S Q' := by
 have hid' : d ∉ S.rts := by simpa using hid
 intro fx a w Q'' ⟨E, m⟩ hq
 have hw' := wantedV_sound m hw
 unfold wpList
 rw [if_pos hw']
 refine .inl ?_
 obtain ⟨cv, hcv, hrun⟩ := calleeV_sound m.ev hcal hent ho
 unfold Oper.wp
 rw [hrun w]
 simp only [Oper.upon, hd]
 have hall := RVs_append (RVs_map m.ev c.args.toList) hcv
 have seen : ∀ b, (E.seen S.hp).Z b → b < w.heap.size := fun b hb => by
  rcases hb with hb | hb
  ·exact m.ok.zlt b hb
  ·exact m.ok.lof_lt hb
 have hvs := viewVs_sound m.ok (oneE default (E.seen S.hp).Z) rfl hall hargs
 refine (hF.2 w (E.seen S.hp).Z _ m.go.gw seen hvs).mono ?_
 rintro e w' ⟨x, Zr, rfl, hz, hr, hg⟩
 have hm := m.got hg hid' (k := none) (r := v) (ℓ := default) (Z' := Zr) (v := x) hr (fun blk hb => by cases hb) (fun b hb => ⟨.inr (hz b hb).1, (hz b hb).2⟩)
 unfold St.got at hm
 rw [closed_ren _ hF.1] at hm
 exact hrest fx _ w' Q'' hm hq
end Go.Ab
end
section
namespace Go.Ab
open Go.RowKit Go.Sort

def bsOf (b : ByteArray) : List UInt8 := b.data.toList
def ofBs (l : List UInt8) : ByteArray := ⟨l.toArray⟩
def sortS (xs : List ByteArray) : Option (List ByteArray) := if xs.length < 4611686018427387904 then some (((xs.map bsOf).mergeSort fun x y => decide (x ≤ y)).map ofBs) else none
end Go.Ab
end
section
namespace Go.Ab
open Go.RowKit

/-! ### is an own row nil -/
theorem Chain.eqNilRef {q : Bool} {P : Program} {ops : Array Oper} {o : Oper} {l : List Oper} {S : St} {Q : St → Prop} {T T' e : TypeId} {ti : TI} {x y : Operand} {id off len : Nat} (hw : wantedV ops S o = some true) (ho : o.op = .binOp .eql T x y T')
  (hT : tyOf P T = some ti) (hd : ti.desc = .slice e) (hx : S.ev x = .ref id off len) (hy : S.ev y = .d (.lit (.slice none 0 0)))
  (h : ∀ b : Bool, (len ≠ 0 → b = false) → Chain q P ops l (S.put o.dst (.d (.lit (.bool b)))) Q) : Chain q P ops (o :: l) S Q := by
 have go : ∀ fx a w E, Mod fx S E a w → ∃ b : Bool, (len ≠ 0 → b = false) ∧ ∀ w', (execOp a.eval o).run P w' = .ok (.value (.bool b)) w' := by
  intro fx a w E m
  have h1 := m.ev x
  rw [hx] at h1
  obtain ⟨A, cap, hv, h3⟩ : ∃ A cap, a.eval x = .slice A len cap ∧ (len ≠ 0 → A.isNone = false) := by
   rcases h1 with ⟨_, _, hl, h⟩ | ⟨_, _, a, h, _⟩
   ·exact ⟨none, 0, by rw [h, hl], fun h => absurd hl h⟩
   ·exact ⟨_, _, h, fun _ => rfl⟩
  have h4 := m.ev y
  rw [hy] at h4
  have h4 : a.eval y = _ := h4.1
  refine ⟨A.isNone, h3, fun w' => ?_⟩
  unfold execOp
  rw [ho]
  have hu := run_und hT w'
  rw [hd] at hu
  simp only [hv, h4]
  have := (run_eq_of (P := P) (T := T) (x := .slice A len cap) (y := .slice none 0 0) (r := A.isNone) (w := w') (equal_of fun d => by cases A <;> simp [Op.equalIn, hu]) x y ⟨rfl, rfl⟩ ⟨rfl, rfl⟩).1
  have hgd : (eqGuard .eql T x y (.slice A len cap) (.slice none 0 0)).run P w' = .ok () w' := rfl
  rw [Sem.run_bind, hgd] at this
  simp only [Result.andThen_ok] at this
  simp [Sem.run_bind, hgd, this]
 cases q with
 | false =>
  intro fx a w Q' ⟨E, m⟩ hq
  have hw' := wantedV_sound m hw
  obtain ⟨b, hb, hrun⟩ := go fx a w E m
  unfold wpList
  rw [if_pos hw']
  refine .inl ?_
  unfold Oper.wp
  rw [hrun w]
  exact h b hb fx _ w Q' ⟨E, m.put o.dst ⟨rfl, rfl⟩⟩ hq
 | true =>
  intro fx a w Q' ⟨E, m⟩ hq
  have hw' := wantedV_sound m hw
  obtain ⟨b, hb, hrun⟩ := go fx a w E m
  unfold wpQuiet
  rw [if_pos hw']
  refine ⟨.bool b, fun w' hg => ?_, h b hb fx _ w Q' ⟨E, m.put o.dst ⟨rfl, rfl⟩⟩ hq⟩
  unfold Oper.quietAt
  rw [hrun w']
  exact ⟨rfl, rfl⟩

/-! ### a drawn region that only looks: everything is seen as data -/
def dstIn (ds : List Nat) (l : List Oper) : Bool := l.all fun o => match o.dst with
 | some d => ds.contains d
 | none => true
theorem wpQuiet_mono {P : Program} {ops : Array Oper} {C : World → Prop} {Q Q' : Act → Prop} (hq : ∀ a, Q a → Q' a) : ∀ {l : List Oper} {a : Act}, wpQuiet P ops C Q l a → wpQuiet P ops C Q' l a
 | [], _, h => hq _ h
 | o :: l, a, h => by
  unfold wpQuiet at h ⊢
  split
  ·rename_i hw
   rw [if_pos hw] at h
   obtain ⟨v, h1, h2⟩ := h
   exact ⟨v, h1, wpQuiet_mono hq h2⟩
  ·rename_i hw
   rw [if_neg hw] at h
   exact wpQuiet_mono hq h
theorem wpQuiet_same {P : Program} {ops : Array Oper} {C : World → Prop} {Q : Act → Prop} {ds : List Nat} : ∀ (l : List Oper) (a : Act), dstIn ds l = true → wpQuiet P ops C Q l a →
  wpQuiet P ops C (fun a' => Q a' ∧ a'.defers = a.defers ∧ a'.tmps.size = a.tmps.size ∧ ∀ t, t ∉ ds → a'.tmps.getD t undef = a.tmps.getD t undef) l a
 | [], a, _, h => ⟨h, rfl, rfl, fun _ _ => rfl⟩
 | o :: l, a, hd, h => by
  simp only [dstIn, List.all_cons, Bool.and_eq_true] at hd
  have step : ∀ x, wpQuiet P ops C Q l (a.put o.dst x) → wpQuiet P ops C (fun a' => Q a' ∧ a'.defers = a.defers ∧ a'.tmps.size = a.tmps.size ∧ ∀ t, t ∉ ds → a'.tmps.getD t undef = a.tmps.getD t undef) l (a.put o.dst x) := fun x hx => by
   have := wpQuiet_same l (a.put o.dst x) hd.2 hx
   have e1 : (a.put o.dst x).defers = a.defers := by cases o.dst <;> rfl
   have e2 : (a.put o.dst x).tmps.size = a.tmps.size := by cases o.dst <;> simp [Act.put]
   have e3 : ∀ t, t ∉ ds → (a.put o.dst x).tmps.getD t undef = a.tmps.getD t undef := fun t ht => by
    cases hq : o.dst with
    | none => rfl
    | some d =>
     rw [getD_put, if_neg]
     rintro ⟨rfl, _⟩
     have := hd.1
     rw [hq] at this
     exact ht (by simpa using this)
   rw [e1, e2] at this
   refine wpQuiet_mono (fun a' h => ⟨h.1, h.2.1, h.2.2.1, fun t ht => (h.2.2.2 t ht).trans (e3 t ht)⟩) this
  unfold wpQuiet at h ⊢
  split
  ·rename_i hw
   rw [if_pos hw] at h
   obtain ⟨v, h1, h2⟩ := h
   exact ⟨v, h1, step v h2⟩
  ·rename_i hw
   rw [if_neg hw] at h
   exact step _ h

theorem tlook_app {l1 l2 : List (Nat × V)} {t : Nat} : (∃ p ∈ l1, p.1 = t ∧ tlook (l1 ++ l2) t = p.2) ∨ tlook (l1 ++ l2) t = tlook l2 t := by
 induction l1 with
 | nil => exact .inr rfl
 | cons p l ih =>
  obtain ⟨k, u⟩ := p
  simp only [List.cons_append, tlook]
  by_cases hk : t = k
  ·rw [if_pos hk]; exact .inl ⟨(k, u), .head _, hk.symm, rfl⟩
  ·rw [if_neg hk]
   rcases ih with ⟨p, h1, h2⟩ | h
   ·exact .inl ⟨p, .tail _ h1, h2⟩
   ·exact .inr h
theorem tlook_filter {ds : List Nat} {l : List (Nat × V)} {t : Nat} : tlook (l.filter fun p => !ds.contains p.1) t = .junk ∨ (t ∉ ds ∧ tlook (l.filter fun p => !ds.contains p.1) t = tlook l t) := by
 induction l with
 | nil => exact .inl rfl
 | cons p l ih =>
  obtain ⟨k, u⟩ := p
  rw [List.filter_cons]
  by_cases hk : ds.contains k = true
  ·simp only [hk, Bool.not_true, Bool.false_eq_true, if_false]
   rcases ih with h | ⟨h1, h2⟩
   ·exact .inl h
   ·refine .inr ⟨h1, h2.trans ?_⟩
    simp only [tlook]
    rw [if_neg]
    rintro rfl
    exact h1 (by simpa using hk)
  ·have hk' : ds.contains k = false := by simpa using hk
   simp only [hk', Bool.not_false, if_true, tlook]
   by_cases ht : t = k
   ·subst ht
    exact .inr ⟨by simpa using hk', by simp⟩
   ·rw [if_neg ht, if_neg ht]; exact ih

def isLitV : V → Bool
 | .d (.lit _) => true
 | _ => false
theorem Chain.viewQ {P : Program} {ops : Array Oper} {l : List Oper} {nt : Nat} {rts : List Nat} {sl : List (Nat × V)} {hp : List (Nat × Option Blk)} {Q : St → Prop} (Sv : St) (outs : List (Nat × V)) (ds : List Nat) (hs : Sub (mk nt rts sl hp) Sv) (hd : dstIn ds l = true)
  (hl : ∀ p ∈ outs, isLitV p.2 = true) (h : Chain true P ops l Sv (fun S1 => ∀ p ∈ outs, S1.sl p.1 = p.2)) (hq : Q (mk nt rts (outs ++ sl.filter fun p => !ds.contains p.1) hp)) : Chain true P ops l (mk nt rts sl hp) Q := by
 intro fx a w Q' ⟨E, m⟩ hq'
 have h1 := h fx a w (fun a' => ∀ p ∈ outs, ∀ E : Env, RV E w p.2 (a'.tmps.getD p.1 undef)) (hs fx a w ⟨E, m⟩) fun S1 a1 hS1 ⟨E1, m1⟩ p hp E => by
  have g := m1.slots p.1
  rw [hS1 p hp] at g
  have := hl p hp
  cases hv : p.2 with
  | d x =>
   rw [hv] at this
   cases x with
   | lit v => rw [hv] at g; exact g
   | _ => cases this
  | _ => rw [hv] at this; cases this
 refine wpQuiet_mono (fun a' g => ?_) (wpQuiet_same l a hd h1)
 obtain ⟨g1, g2, g3, g4⟩ := g
 refine hq' _ a' hq ⟨E, g3.trans m.nt, fun t => ?_, g2.trans m.dfr, m.ok, m.frame, m.mine, m.z, m.roots⟩
 show RV E w (tlook (outs ++ sl.filter fun p => !ds.contains p.1) t) _
 rcases tlook_app (l1 := outs) (l2 := sl.filter fun p => !ds.contains p.1) (t := t) with ⟨p, hp, rfl, h2⟩ | h2
 ·rw [h2]; exact g1 p hp E
 ·rw [h2]
  rcases tlook_filter (ds := ds) (l := sl) (t := t) with h3 | ⟨h3, h4⟩
  ·rw [h3]; trivial
  ·rw [h4, g4 t h3]; exact m.slots t

/-! ### ranges over maps: whichever order, one outcome -/
open Classical in
noncomputable def rangeM {κ β ρ : Type} (f : κ → β → Option (Out β ρ)) (l : List κ) (b : β) : Option (Out β ρ) :=
 if ∀ l', List.Perm l' l → rangeL f l' b = rangeL f l b then rangeL f l b else none
theorem rangeM_some {κ β ρ : Type} {f : κ → β → Option (Out β ρ)} {l : List κ} {b : β} {o : Out β ρ} (h : rangeM f l b = some o) : ∀ l', List.Perm l' l → rangeL f l' b = some o := by
 unfold rangeM at h
 split at h
 ·rename_i hp
  exact fun l' hl => (hp l' hl).trans h
 ·cases h
theorem rangeM_of {κ β ρ : Type} {f : κ → β → Option (Out β ρ)} {l : List κ} {b : β} {o : Out β ρ} (h : ∀ l', List.Perm l' l → rangeL f l' b = some o) : rangeM f l b = some o := by
 unfold rangeM
 rw [if_pos (fun l' hl => (h l' hl).trans (h l (List.Perm.refl l)).symm)]
 exact h l (List.Perm.refl l)

def Rel2 {α β : Type} (R : α → β → Prop) : List α → List β → Prop
 | [], [] => True
 | a :: xs, b :: bs => R a b ∧ Rel2 R xs bs
 | _, _ => False
theorem Rel2.split {α β : Type} {R : α → β → Prop} {e : β} {b2 : List β} : ∀ {b1 : List β} {xs : List α}, Rel2 R xs (b1 ++ e :: b2) → ∃ a1 x a2, xs = a1 ++ x :: a2 ∧ Rel2 R a1 b1 ∧ R x e ∧ Rel2 R a2 b2
 | [], a :: xs, ⟨h1, h2⟩ => ⟨[], a, xs, rfl, trivial, h1, h2⟩
 | b :: b1, a :: xs, ⟨h1, h2⟩ => by
  obtain ⟨a1, x, a2, rfl, g1, g2, g3⟩ := Rel2.split h2
  exact ⟨a :: a1, x, a2, rfl, ⟨h1, g1⟩, g2, g3⟩
 | [], [], h => h.elim
 | _ :: _, [], h => h.elim
theorem Rel2.app {α β : Type} {R : α → β → Prop} {a2 : List α} {b2 : List β} (h2 : Rel2 R a2 b2) : ∀ {a1 : List α} {b1 : List β}, Rel2 R a1 b1 → Rel2 R (a1 ++ a2) (b1 ++ b2)
 | [], [], _ => h2
 | _ :: _, _ :: _, ⟨h, g⟩ => ⟨h, Rel2.app h2 g⟩
 | [], _ :: _, h => h.elim
 | _ :: _, [], h => h.elim
theorem Rel2.nil {α β : Type} {R : α → β → Prop} {xs : List α} (h : Rel2 R xs []) : xs = [] := by
 cases xs with
 | nil => rfl
 | cons a xs => exact h.elim

def mvalV (ag : Bool) (cs : List D) : V := if ag then .agg (cs.map .d) else match cs with
 | [c] => .d c
 | _ => .junk
@[simp] theorem mvalV_true (cs : List D) : mvalV true cs = .agg (cs.map .d) := rfl
@[simp] theorem mvalV_one (c : D) : mvalV false [c] = .d c := rfl
/-- an entry of the map and what it stands for -/
def MEnt {κ : Type} (w : World) (Z : Nat → Prop) (ag : Bool) (kf : κ → MKey) (vf : κ → List D) (x : κ) (e : MapEntry) : Prop :=
 e.key = (kf x).enc ∧ ∃ cs, RDs w Z (vf x) cs ∧ (if ag = true then e.val = .agg cs.toArray else cs = [e.val])
theorem MEnt.val {κ : Type} {w w' : World} {Z : Nat → Prop} {ag : Bool} {kf : κ → MKey} {vf : κ → List D} {x : κ} {e : MapEntry} (h : MEnt w Z ag kf vf x e) (hk : Keeps Z w w') {E : Env} (hz : ∀ b, Z b → E.Z b) :
  RV E w' (.tup [.d (.lit (kf x).enc), mvalV ag (vf x)]) (.tuple #[e.key, e.val]) := by
 obtain ⟨h1, cs, h2, h3⟩ := h
 refine ⟨[e.key, e.val], rfl, _, _, rfl, ⟨h1, by cases kf x <;> rfl⟩, _, _, rfl, ?_, rfl⟩
 have h2 := RDs.keep hk hz _ _ h2
 unfold mvalV
 cases ag with
 | true =>
  rw [if_pos rfl] at h3
  rw [if_pos rfl, h3]
  exact ⟨cs, rfl, fun c hc => by obtain ⟨y, _, rfl⟩ := List.mem_map.1 hc; rfl, RVs_d.2 h2⟩
 | false =>
  rw [if_neg (by simp)] at h3
  rw [if_neg (by simp)]
  subst h3
  split
  ·rename_i c hc
   rw [hc] at h2
   obtain ⟨v, r, e1, e2, e3⟩ := h2
   injection e1 with e1 _
   subst e1
   exact e2
  ·trivial
theorem Rel2.of_map {κ : Type} {w : World} {Z : Nat → Prop} {ag : Bool} {kf : κ → MKey} {vf : κ → List D} : ∀ {m : List κ} {es : List MapEntry}, es.map (·.key) = (m.map kf).map MKey.enc → RDx w Z ag (m.map vf) (es.map (·.val)) → Rel2 (MEnt w Z ag kf vf) m es
 | [], [], _, _ => True.intro
 | [], e :: es, h, _ => by cases h
 | x :: m, [], h, _ => by cases h
 | x :: m, e :: es, h, h2 => by
  simp only [List.map_cons, List.cons.injEq] at h
  obtain ⟨v, cs, r, e1, e2, e3, e4⟩ := h2
  injection e1 with e1 e5
  subst e1; subst e5
  exact ⟨⟨h.1, cs, e2, e3⟩, Rel2.of_map h.2 e4⟩

/-- where the iterator lies -/
def itv (r : Nat) : Value := .pointer (some ⟨r, 0, none⟩)
def PostR2 {β ρ : Type} (J : β → St) (rr : ρ) (Q : Exit → St → Prop) : Out β ρ → Exit → St → Prop
 | .go b, e, S => e = .normal ∧ Sub S (J b)
 | .ret r', e, S => e = .ret ∧ (r' = rr → Q e S)

theorem Aft.blockIn {P : Program} {fx : Fx} {F : Fence} {n id : Nat} {c : Code} {Q : Exit → St → Prop} {a : Act} {w : World} (h : c.wpIn F n P (Aft fx (blockQ id Q)) a w) : (Code.block id c).wpIn F n P (Aft fx Q) a w := by
 refine wpIn_block (Code.wpIn_mono ?_ h)
 rintro e a' w' ⟨S', fx', hq, hx, m'⟩
 cases e with
 | exit id' =>
  simp only [blockQ] at hq
  simp only [Exit.inBlock]
  split
  ·rename_i h; rw [if_pos h] at hq; exact ⟨S', fx', hq, hx, m'⟩
  ·rename_i h; rw [if_neg h] at hq; exact ⟨S', fx', hq, hx, m'⟩
 | normal => exact ⟨S', fx', hq, hx, m'⟩
 | goto l => exact ⟨S', fx', hq, hx, m'⟩
 | ret => exact ⟨S', fx', hq, hx, m'⟩
 | panic ch => exact ⟨S', fx', hq, hx, m'⟩
 | outgrown => exact ⟨S', fx', hq, hx, m'⟩

theorem Mod.putJ {fx : Fx} {S : St} {E : Env} {a : Act} {w : World} (m : Mod fx S E a w) {t : Nat} (h : S.sl t = .junk) (x : Value) : Mod fx S E (a.put (some t) x) w := by
 refine ⟨by simp [Act.put, m.nt], fun i => ?_, m.dfr, m.ok, m.frame, m.mine, m.z, m.roots⟩
 rw [getD_put]
 by_cases hc : i = t ∧ t < a.tmps.size
 ·rw [if_pos hc, hc.1, h]; trivial
 ·rw [if_neg hc]; exact m.slots i

/-- a loop over a map, between its rounds -/
structure MapAt {κ β ρ : Type} (fx : Fx) (J : Nat → β → St) (R : κ → MapEntry → Prop) (f : κ → β → Option (Out β ρ)) (o : Out β ρ) (r bm clock : Nat) (es : Array MapEntry) (Zm : Nat → Prop) (w1 : World) (left : List κ) (b : β) (seen : Array Nat) (c0 : Nat) (E : Env) (fx' : Fx) (a : Act) (w : World) : Prop where
 ext : Ext fx fx'
 mod : Mod fx' (J r b) E a w
 iter : w.heap[r]? = some (.mapIter (some bm) clock seen c0)
 late : clock ≤ c0
 free : Free (J r b).hp E r
 zown : ∀ z, Zm z → ∀ i, (J r b).hp i ≠ none → ¬ (E.loc i).own z
 keep : ∀ z, Zm z → w.heap[z]? = w1.heap[z]?
 zlt : ∀ z, Zm z → z < w.heap.size
 zfx : ∀ z, Zm z → fx.Z0 z ∨ fx.w0.heap.size ≤ z ∨ fx.L z
 dz : ∃ l : List Nat, fx'.dfr = l.map coll ++ fx.dfr ∧ ∀ D ∈ l, ¬ Zm D
 rel : Rel2 R left (es.toList.filter fun e => !seen.contains e.born)
 all : ∀ l', List.Perm l' left → rangeL f l' b = some o
 rz : ¬ Zm r
 rfx : fx.w0.heap.size ≤ r

theorem coll_inj : ∀ {l l' : List Nat}, l.map coll = l'.map coll → l = l'
 | [], [], _ => rfl
 | [], _ :: _, h => by cases h
 | _ :: _, [], h => by cases h
 | a :: l, b :: l', h => by
  simp only [List.map_cons, List.cons.injEq] at h
  obtain ⟨h1, h2⟩ := h
  have : a = b := by
   unfold coll at h1
   injection h1 with h1
   injection h1
  rw [this, coll_inj h2]

/-- a round begins: the iterator has moved on -/
theorem MapAt.start {κ β ρ : Type} {fx : Fx} {J : Nat → β → St} {R : κ → MapEntry → Prop} {f : κ → β → Option (Out β ρ)} {o : Out β ρ} {r bm clock : Nat} {es : Array MapEntry} {Zm : Nat → Prop} {w1 : World} {left : List κ} {b : β} {seen : Array Nat} {c0 : Nat} {E : Env} {fx' : Fx} {a : Act} {w : World}
  (h : MapAt fx J R f o r bm clock es Zm w1 left b seen c0 E fx' a w) {w' : World} (hw : w' = w ∨ w' = w.drew) (ob : Obj) :
  ∃ fxn : Fx, fxn.ro = fx.ro ∧ Ext fx fxn ∧ Mod fxn (J r b) (E.more Zm) a (w'.putObj r ob) ∧ fxn.w0 = w'.putObj r ob ∧ (∀ D, fxn.L D → lof E (J r b).hp D) ∧ (∀ D, fxn.Z0 D → E.Z D ∨ Zm D) ∧ (∃ l : List Nat, fxn.dfr = l.map coll ++ fx.dfr ∧ ∀ D ∈ l, ¬ Zm D) := by
 have hg : Grow w w' := by
  rcases hw with rfl | rfl
  ·exact .refl _ _
  ·exact ⟨rfl, rfl, rfl, Nat.le_refl _, fun _ _ => rfl⟩
 have hheap : w'.heap = w.heap := by rcases hw with rfl | rfl <;> rfl
 have m1 := h.mod.grow hg
 have hsz : (w'.putObj r ob).heap.size = w.heap.size := by rw [World.putObj_size, hheap]
 have m2 : Mod fx' (J r b) (E.more Zm) a w' → True := fun _ => trivial
 have hrec : ∀ l, fx.ro = some l → Free (J r b).hp (E.more Zm) l ∧ ∃ q, (w'.putObj r ob).heap[l]? = some (.loop q) := fun l hl => by
  have hl' : fx'.ro = some l := by rw [h.ext.ro]; exact hl
  obtain ⟨h1, h2, h3, q, h4⟩ := fx'.lrec l hl'
  obtain ⟨g1, g2⟩ := h.mod.apart h1 h2 h3
  have hw4 : w.heap[l]? = some (.loop q) := (h.mod.frame.block l h1 h2).trans h4
  have hne : l ≠ r := fun e => by rw [e, h.iter] at hw4; cases hw4
  refine ⟨⟨g1, fun hz => ?_⟩, q, by rw [World.putObj_heap_other hne, hheap]; exact hw4⟩
  rcases hz with hz | hz
  ·exact g2 hz
  ·obtain ⟨k1, k2, k3, _⟩ := fx.lrec l hl
   rcases h.zfx l hz with g | g | g
   ·exact k3 g
   ·omega
   ·exact k2 g
 have hgo : GO (E.more Zm) (J r b).hp (w'.putObj r ob) := by
  have g := m1.go
  have hgr : gN ≤ r := Nat.le_trans fx.gw.lt h.rfx
  exact ⟨g.gw.keep (fun b hb => World.putObj_heap_other (by omega)) (by rw [World.putObj_size]; exact Nat.le_refl _), g.own⟩
 have hk : Keeps E.Z w' (w'.putObj r ob) := fun z hz => World.putObj_heap_other (fun e => h.free.2 (e ▸ hz))
 have ok : (E.more Zm).ok (J r b).hp (w'.putObj r ob) := by
  refine ⟨fun id k hk' => ?_, m1.ok.inj, fun i hi z hn hz => ?_, fun z hz => ?_, fun i hi z hb => by rw [World.putObj_size]; exact m1.ok.xlt i hi z hb⟩
  ·exact (m1.ok.hold id k hk').keep (E' := E.more Zm) hk (fun _ h => .inl h) rfl (fun z hn => World.putObj_heap_other (fun e => h.free.1 id (by rw [hk']; simp) (e ▸ hn))) (by rw [World.putObj_size]; exact Nat.le_refl _)
  ·rcases hz with hz | hz
   ·exact m1.ok.apart i hi z hn hz
   ·exact h.zown z hz i hi hn
  ·rcases hz with hz | hz
   ·rw [World.putObj_size]; exact m1.ok.zlt z hz
   ·rw [hsz]; exact h.zlt z hz
 refine ⟨Fx.now (w'.putObj r ob) (E.more Zm) (J r b).hp fx.roots fx'.dfr fx.ro hrec hgo, rfl, ⟨rfl, ?_, fun z ⟨i, hi, hn⟩ => h.ext.mine2 (h.mod.mine i hi z hn), fun z hz => ?_, rfl, ?_⟩, ⟨m1.nt, fun t => RV.keep (E' := E.more Zm) hk (fun _ h => Or.inl h) rfl _ _ (m1.slots t), m1.dfr, ok, ⟨rfl, rfl, rfl, Nat.le_refl _, fun _ _ _ => rfl⟩, fun i hi z hn => .inr ⟨i, hi, hn⟩, fun _ h => .inl h, fun q hq => m1.roots q (by rw [h.ext.roots]; exact hq)⟩, rfl, fun _ h => h, fun _ h => h, h.dz⟩
 ·have fr : fx.frame w := h.mod.frame.back h.ext
  refine ⟨by show w'.os = _; rcases hw with rfl | rfl <;> exact fr.os, by show w'.tape = _; rcases hw with rfl | rfl <;> exact fr.tape, by show w'.output = _; rcases hw with rfl | rfl <;> exact fr.output, by rw [show (Fx.now (w'.putObj r ob) (E.more Zm) (J r b).hp fx.roots fx'.dfr fx.ro hrec hgo).w0 = w'.putObj r ob from rfl, hsz]; exact fr.size, fun z hz hl => ?_⟩
  have hne : z ≠ r := by have := h.rfx; omega
  show (w'.putObj r ob).heap[z]? = _
  rw [World.putObj_heap_other hne, hheap]
  exact fr.block z hz hl
 ·rcases hz with hz | hz
  ·exact h.ext.z2 (h.mod.z z hz)
  ·exact h.zfx z hz
 ·obtain ⟨l, hl, hn, hD⟩ := h.ext.dfr
  obtain ⟨l', hl', hz⟩ := h.dz
  have hll : l = l' := coll_inj (List.append_cancel_right (hl.symm.trans hl'))
  subst hll
  refine ⟨l, hl, hn, fun D hd => ?_⟩
  obtain ⟨k1, k2, k3, k4, k5⟩ := hD D hd
  have hwD : w.heap[D]? = some (.deferred (some [])) := (h.mod.frame.block D k2 k5).trans k3
  have hne : D ≠ r := fun e => by rw [e, h.iter] at hwD; cases hwD
  obtain ⟨g1, g2⟩ := h.mod.apart k2 k5 k4
  refine ⟨k1, ?_, ?_, fun hz' => ?_, fun ⟨i, hi, hn'⟩ => g1 i hi hn'⟩
  ·show D < (w'.putObj r ob).heap.size
   rw [hsz]; exact (Array.getElem?_eq_some_iff.1 hwD).1
  ·show (w'.putObj r ob).heap[D]? = _
   rw [World.putObj_heap_other hne, hheap]; exact hwD
  ·rcases hz' with hz' | hz'
   ·exact g2 hz'
   ·exact hz D hd hz'

theorem Oper.wp_nq {P : Program} {o : Oper} {a : Act} {w : World} {K K' X X' : Act → World → Prop} (hK : ∀ a w, K a w → K' a w) (h : o.wp P a w K (NQ X)) : o.wp P a w K' (NQ X') := by
 unfold Oper.wp at h ⊢
 generalize (execOp a.eval o).run P w = r at *
 cases r with
 | ok x w' =>
  cases x <;> simp only [Oper.upon] at h ⊢ <;>
   first
    | exact hK _ _ h
    | exact absurd h.1 (by simp)
    | exact h
    | exact h.mono (fun v w'' he => hK _ _ he)
    | exact h.mono (fun e w'' he => by
      cases e with
      | returned v => exact hK _ _ he
      | panicked c => exact absurd he.1 (by simp)
      | outgrown => exact absurd he NQ.keep)
 | halt x w' => cases x <;> simp only [Oper.upon] at h ⊢ <;> first | exact absurd h.1 (by simp) | exact h
theorem wpList_app {P : Program} {ops : Array Oper} {K : Act → World → Prop} {l2 : List Oper} : ∀ {l1 : List Oper} {a : Act} {w : World}, wpList P ops (NQ fun a w => wpList P ops (NQ K) l2 a w) l1 a w → wpList P ops (NQ K) (l1 ++ l2) a w
 | [], _, _, h => h.2
 | o :: l1, a, w, h => by
  rw [List.cons_append]
  unfold wpList at h ⊢
  split
  ·rename_i hw
   rw [if_pos hw] at h
   rcases h with h | h
   ·exact .inl (Oper.wp_nq (fun a' w' h => wpList_app h) h)
   ·exact absurd h.2 NQ.keep
  ·rename_i hw
   rw [if_neg hw] at h
   exact wpList_app h

theorem left_cut {es : List MapEntry} {seen : Array Nat} {L1 L2 : List MapEntry} {e : MapEntry} (hn : (es.map (·.born)).Nodup) (h : (es.filter fun e => !seen.contains e.born) = L1 ++ e :: L2) : (es.filter fun x => !(seen.push e.born).contains x.born) = L1 ++ L2 := by
 have h1 : (es.filter fun x => !(seen.push e.born).contains x.born) = (es.filter fun x => !seen.contains x.born).filter fun x => x.born != e.born := by
  rw [List.filter_filter]
  congr 1
  funext x
  simp only [Array.contains_push]
  unfold bne
  cases seen.contains x.born <;> cases (x.born == e.born) <;> rfl
 have hd : ((L1 ++ e :: L2).map (·.born)).Nodup := by
  rw [← h]
  exact hn.sublist ((List.filter_sublist).map _)
 rw [h1, h, List.filter_append, List.filter_cons]
 simp only [bne_self_eq_false, Bool.false_eq_true, if_false]
 rw [List.map_append, List.map_cons, List.nodup_append] at hd
 obtain ⟨_, d2, d3⟩ := hd
 rw [List.nodup_cons] at d2
 have f1 : L1.filter (fun x => x.born != e.born) = L1 := List.filter_eq_self.2 fun x hx => by
  simpa using d3 _ (List.mem_map.2 ⟨x, hx, rfl⟩) _ (.head _)
 have f2 : L2.filter (fun x => x.born != e.born) = L2 := List.filter_eq_self.2 fun x hx => by
  have : ¬ x.born = e.born := fun he => d2.1 (he ▸ List.mem_map.2 ⟨x, hx, rfl⟩)
  simpa using this
 rw [f1, f2]

theorem AW.mapR {P : Program} {κ β ρ : Type} {i0 i1 i2 B B2 : Nat} {lr : List Oper} {og on ox oe : Oper} {l2 : List Oper} {rest : Code} {S : St} {t k e : TypeId} {ti : TI} {x : Operand} {it tn te td : Nat} {kd : TypeDesc} {ag : Bool} {kf : κ → MKey} {vf : κ → List D} {m : List κ}
  {f : κ → β → Option (Out β ρ)} {b0 : β} {o : Out β ρ} {rr : ρ} {Q : Exit → St → Prop} (n0 : Nat) (S1 : St) (J : Nat → β → St) (JB : β → St)
  (hr0 : lr.drop n0 = [og]) (h0 : Chain false P lr.toArray (lr.take n0) S (fun S' => Sub S' S1)) (hx : S1.ev x = .d (.mpi kd ag (m.map kf) (m.map vf)))
  (g1 : og.guard = none) (g2 : og.op = .range t x) (g3 : og.dst = some it) (hT : tyOf P t = some ti) (hd : ti.desc = .map k e)
  (n1 : on.guard = none) (n2 : on.op = .next (.tmp it) false) (n3 : on.dst = some tn) (x1 : ox.guard = none) (x2 : ox.op = .extract (.tmp tn) 0) (x3 : ox.dst = some te)
  (e1 : oe.guard = none) (e2 : oe.op = .entry (.tmp it)) (e3 : oe.dst = some td) (hnt : ∀ r b, tn < (J r b).nt ∧ te < (J r b).nt ∧ tn ≠ te ∧ tn ≠ it ∧ te ≠ it)
  (hJ : ∀ r b, (J r b).sl it = .d (.lit (itv r)) ∧ (J r b).sl tn = .junk ∧ (J r b).sl te = .junk) (hJ0 : ∀ r, Sub (S1.put (some it) (.d (.lit (itv r)))) (J r b0)) (hJB : ∀ r b, Sub (J r b) (JB b))
  (h : rangeM f m b0 = some o)
  (round : ∀ r x b o', f x b = some o' → Chain false P (oe :: l2).toArray l2 ((J r b).put (some td) (.tup [.d (.lit (kf x).enc), mvalV ag (vf x)])) (fun S' => AW P rest S' (blockQ B2 (PostR2 (J r) rr Q o'))))
  (hd0 : noDefer lr = true := by rfl) (hd1 : noDefer [on, ox] = true := by rfl) (hd2 : noDefer (oe :: l2) = true := by rfl) :
  AW P (.seq (.region i0 lr.toArray false) (.block B (.loop (.seq (.region i1 [on, ox].toArray false) (.seq (.cond (.tmp te) .skip (.exit B)) (.block B2 (.seq (.region i2 (oe :: l2).toArray false) rest))))))) S (PostJ JB rr Q o) := by
 intro fx a w hm
 have hall := rangeM_some h
 refine wpIn_seq (Code.wpIn_mono ?_ (rd_region (Q := fun a2 w2 => ∃ r bm clock es Zm w1 left seen c0 E fx', w1.heap[bm]? = some (.map es clock) ∧ Zm bm ∧ Go.MapKept.Stamped es clock ∧ MapAt fx J (MEnt w1 Zm ag kf vf) f o r bm clock es Zm w1 left b0 seen c0 E fx' a2 w2) hd0 ?_))
 ·rintro ex a2 w2 ⟨rfl, r, bm, clock, es, Zm, w1, left, seen, c0, E, fx', hb1, hzb, hst, hM⟩
  refine Aft.blockIn ?_
  refine Go.wpIn_loop_ghost (fun n a w => ∃ left b seen c0 E fx', left.length = n ∧ MapAt fx J (MEnt w1 Zm ag kf vf) f o r bm clock es Zm w1 left b seen c0 E fx' a w) left.length ⟨left, b0, seen, c0, E, fx', rfl, hM⟩ ?_
  clear hM left seen c0 E fx' a2 w2
  rintro n a w ⟨left, b, seen, c0, E, fx', hlen, hM⟩
  have hbm : w.heap[bm]? = some (.map es clock) := (hM.keep bm hzb).trans hb1
  obtain ⟨j1, j2, j3⟩ := hJ r b
  obtain ⟨q1, q2, q3, q4, q5⟩ := hnt r b
  have hitv : a.tmps.getD it undef = itv r := by
   have := hM.mod.slots it
   rw [j1] at this
   exact RD_lit this
  have hts : a.tmps.size = (J r b).nt := hM.mod.nt
  refine wpIn_seq (Code.wpIn_mono ?_ (rd_region (Q := fun a' w' => (left = [] ∧ a'.eval (.tmp te) = .bool false ∧ Mod fx' (J r b) E a' w') ∨
   (∃ L1 L2 en w'' v1 v2, (es.toList.filter fun e => !seen.contains e.born) = L1 ++ en :: L2 ∧ a'.eval (.tmp te) = .bool true ∧ a' = (a.put (some tn) v1).put (some te) v2 ∧ (w'' = w ∨ w'' = w.drew) ∧ w' = w''.putObj r (.mapIter (some bm) clock (seen.push en.born) clock))) hd1 ?_))
  ·rintro ex a' w' ⟨rfl, hK⟩
   refine wpIn_seq ?_
   rcases hK with ⟨hl, hev, hm'⟩ | ⟨L1, L2, en, w'', v1, v2, hL, hev, rfl, hw'', rfl⟩
   ·refine wpIn_cond (t := false) hev (wpIn_exit ?_)
    have ho : o = .go b := by
     have := hM.all [] (by rw [hl])
     simp only [rangeL, Option.some.injEq] at this
     exact this.symm
    refine ⟨J r b, fx', ?_, hM.ext, E, hm'⟩
    simp only [blockQ, if_true]
    rw [ho]
    exact ⟨rfl, hJB r b⟩
   ·refine wpIn_cond (t := true) hev (wpIn_skip ?_)
    have hrel := hM.rel
    rw [hL] at hrel
    obtain ⟨l1, y, l2', hleft, hr1, hry, hr2⟩ := Rel2.split hrel
    have hcut := left_cut hst.2.1 hL
    have hperm : ∀ l', List.Perm l' (l1 ++ l2') → rangeL f (y :: l') b = some o := fun l' hl' => hM.all _ (by rw [hleft]; exact (List.Perm.cons y hl').trans List.perm_middle.symm)
    obtain ⟨o', ho'⟩ : ∃ o', f y b = some o' := by
     have := hperm _ (List.Perm.refl _)
     simp only [rangeL] at this
     cases hf : f y b with
     | none => rw [hf] at this; cases this
     | some o' => exact ⟨o', rfl⟩
    have hen : en ∈ es.toList := by
     have : en ∈ (es.toList.filter fun e => !seen.contains e.born) := by rw [hL]; simp
     exact (List.mem_filter.1 this).1
    obtain ⟨fxn, f1, f2, f3, f4, f5, f6, ld, f7, f8⟩ := hM.start hw'' (.mapIter (some bm) clock (seen.push en.born) clock)
    have hwh : w''.heap = w.heap := by rcases hw'' with rfl | rfl <;> rfl
    have hrlt : r < w.heap.size := (Array.getElem?_eq_some_iff.1 hM.iter).1
    generalize hW : w''.putObj r (.mapIter (some bm) clock (seen.push en.born) clock) = W at *
    have hWs : W.heap.size = w.heap.size := by rw [← hW, World.putObj_size, hwh]
    have hWr : W.heap[r]? = some (.mapIter (some bm) clock (seen.push en.born) clock) := by rw [← hW]; exact World.putObj_heap_same (by rw [hwh]; exact hrlt)
    have hWo : ∀ z, z ≠ r → W.heap[z]? = w.heap[z]? := fun z hz => by rw [← hW, World.putObj_heap_other hz, hwh]
    have hKz : Keeps Zm w1 W := fun z hz => (hWo z (fun e => hM.rz (e ▸ hz))).trans (hM.keep z hz)
    have m4 : Mod fxn (J r b) (E.more Zm) ((a.put (some tn) v1).put (some te) v2) W := (f3.putJ j2 v1).putJ j3 v2
    have hiv : ((a.put (some tn) v1).put (some te) v2).tmps.getD it undef = itv r := by
     rw [getD_put, if_neg (fun hc => q5 hc.1.symm), getD_put, if_neg (fun hc => q4 hc.1.symm)]; exact hitv
    refine Code.wpIn_mono ?_ (Aft.blockIn (fx := fxn) (Q := PostR2 (J r) rr Q o') (wpIn_seq (Code.wpIn_mono ?_ (rd_region (Q := fun a w => ∃ S', AW P rest S' (blockQ B2 (PostR2 (J r) rr Q o')) ∧ Models fxn S' a w) hd2 ?_))))
    ·rintro ex a3 w3 ⟨S', fx3, hq, hx3, hm3⟩
     cases o' with
     | go b' =>
      obtain ⟨rfl, hs⟩ := hq
      obtain ⟨E3, m3⟩ := hs fx3 a3 w3 hm3
      have fr : fxn.frame w3 := m3.frame.back hx3
      have mine3 : ∀ i, (J r b').hp i ≠ none → ∀ z, (E3.loc i).own z → W.heap.size ≤ z ∨ lof E (J r b).hp z := fun i hi z hn => by
       rcases hx3.mine2 (m3.mine i hi z hn) with g | g
       ·rw [f4] at g; exact .inl g
       ·exact .inr (f5 z g)
      have hLr : ¬ fxn.L r := fun g => by
       obtain ⟨i, hi, hn⟩ := f5 r g
       exact hM.free.1 i hi hn
      refine ⟨(l1 ++ l2').length, by rw [← hlen, hleft]; simp, l1 ++ l2', b', seen.push en.born, clock, E3, fx3, rfl, ⟨f2.trans hx3, m3, ?_, Nat.le_refl _, ⟨fun i hi hn => ?_, fun hz => ?_⟩, fun z hz i hi hn => ?_, fun z hz => ?_, fun z hz => ?_, hM.zfx, ?_, ?_, fun l' hl' => ?_, hM.rz, hM.rfx⟩⟩
      ·rw [fr.block r (by rw [f4, hWs]; exact hrlt) hLr, f4]; exact hWr
      ·rcases mine3 i hi r hn with g | ⟨j, g1, g2⟩
       ·omega
       ·exact hM.free.1 j g1 g2
      ·rcases hx3.z2 (m3.z r hz) with g | g | g
       ·rcases f6 r g with g | g
        ·exact hM.free.2 g
        ·exact hM.rz g
       ·rw [f4] at g; omega
       ·exact hLr g
      ·rcases mine3 i hi z hn with g | ⟨j, g1, g2⟩
       ·have := hM.zlt z hz; omega
       ·exact hM.zown z hz j g1 g2
      ·refine (fr.block z (by rw [f4, hWs]; exact hM.zlt z hz) (fun g => ?_)).trans ?_
       ·obtain ⟨i, hi, hn⟩ := f5 z g
        exact hM.zown z hz i hi hn
       ·rw [f4]; exact hKz z hz
      ·have g := fr.size
       rw [f4, hWs] at g
       exact Nat.lt_of_lt_of_le (hM.zlt z hz) g
      ·obtain ⟨l, hl1, _, hl3⟩ := hx3.dfr
       refine ⟨l ++ ld, by rw [hl1, f7, List.map_append, List.append_assoc], fun D hD hz => ?_⟩
       rcases List.mem_append.1 hD with hD | hD
       ·have g := (hl3 D hD).1
        rw [f4, hWs] at g
        have := hM.zlt D hz
        omega
       ·exact f8 D hD hz
      ·rw [hcut]; exact Rel2.app hr2 hr1
      ·have := hperm l' hl'
       simpa only [rangeL, ho'] using this
     | ret r' =>
      obtain ⟨rfl, hq⟩ := hq
      have ho : o = .ret r' := by
       have := hperm _ (List.Perm.refl _)
       simp only [rangeL, ho', Option.some.injEq] at this
       exact this.symm
      refine ⟨S', fx3, ?_, f2.trans hx3, hm3⟩
      rw [ho]
      exact ⟨by simp, hq⟩
    ·rintro ex a3 w3 ⟨rfl, S', hA, hm3⟩
     have := hA fxn a3 w3 hm3
     rw [f1] at this
     exact this
    ·have hWb : W.heap[bm]? = some (.map es clock) := (hKz bm hzb).trans hb1
     have hrun := run_entry_at (P := P) W r bm clock seen es clock en hWr hWb hen hst.2.1
     unfold wpList
     rw [if_pos (by simp [Region.wanted, e1])]
     refine .inl ?_
     unfold Oper.wp
     have hex : (execOp ((a.put (some tn) v1).put (some te) v2).eval oe).run P W = .ok (.value (.tuple #[en.key, en.val])) W := by
      have hiv' : ((a.put (some tn) v1).put (some te) v2).eval (.tmp it) = .pointer (some ⟨r, 0, none⟩) := hiv
      simp [execOp, e2, hiv', hrun, Result.andThen]
     rw [hex]
     have hput := m4.put (some td) (hry.val (ag := ag) hKz (E := E.more Zm) (fun _ h => Or.inr h))
     rw [← e3] at hput
     refine round r y b o' ho' fxn _ W _ ⟨_, by rw [e3] at hput ⊢; exact hput⟩ fun S' a' w' hS' hm' => ⟨rfl, S', hS', hm'⟩
  ·have hhold : ∀ z ∈ es.toList, z.born < clock := hst.1
   have hev : a.eval (.tmp it) = .pointer (some ⟨r, 0, none⟩) := hitv
   have fin : ∀ (v : Value) (w' : World), v = .bool false ∨ v = .bool true → ∀ vs : List Value, (∀ K : Act → World → Prop, K ((a.put (some tn) (.tuple (v :: vs).toArray)).put (some te) v) w' → wpList P [on, ox].toArray (NQ K) [ox] (a.put on.dst (.tuple (v :: vs).toArray)) w') := fun v w' _ vs K hK => by
    unfold wpList
    rw [if_pos (by simp [Region.wanted, x1])]
    refine .inl ?_
    unfold Oper.wp
    have hr : (a.put on.dst (.tuple (v :: vs).toArray)).eval (.tmp tn) = .tuple (v :: vs).toArray := by
     show (a.put on.dst _).tmps.getD tn undef = _
     rw [n3, getD_put, if_pos ⟨rfl, by rw [hts]; exact q1⟩]
    have hex : (execOp (a.put on.dst (.tuple (v :: vs).toArray)).eval ox).run P w' = .ok (.value v) w' := by
     simp [execOp, x2, hr, Instr.extract]
    rw [hex]
    show NQ K .normal ((a.put on.dst (.tuple (v :: vs).toArray)).put ox.dst v) w'
    rw [n3, x3]
    exact ⟨rfl, hK⟩
   have tev : ∀ (v1 v2 : Value), ((a.put (some tn) v1).put (some te) v2).eval (.tmp te) = v2 := fun v1 v2 => by
    show ((a.put (some tn) v1).put (some te) v2).tmps.getD te undef = _
    rw [getD_put, if_pos ⟨rfl, by simpa [Act.put, hts] using q2⟩]
   unfold wpList
   rw [if_pos (by simp [Region.wanted, n1])]
   refine .inl ?_
   unfold Oper.wp
   rcases run_next_at (P := P) w on.type r bm clock c0 seen es clock hM.iter hbm hhold hM.late with ⟨hs0, hrun⟩ | ⟨en, hen, w'', hw'', hrun⟩
   ·have hex : (execOp a.eval on).run P w = .ok (.value (.tuple #[.bool false])) w := by
     simp [execOp, n2, hev, hrun, Result.andThen]
    rw [hex]
    refine fin (.bool false) w (.inl rfl) [] _ (.inl ⟨?_, tev _ _, (hM.mod.putJ j2 _).putJ j3 _⟩)
    have hnil : (es.toList.filter fun e => !seen.contains e.born) = [] := by
     have : (leftOf es seen).toList = [] := by
      apply List.eq_nil_of_length_eq_zero
      simpa using hs0
     rw [← this]
     unfold leftOf
     rw [Array.toList_filter]
    have hr := hM.rel
    rw [hnil] at hr
    exact Rel2.nil hr
   ·have hex : (execOp a.eval on).run P w = .ok (.value (.tuple #[.bool true, en.key, en.val])) (Go.ChangeMaps.setBlock w'' r (.mapIter (some bm) clock (seen.push en.born) clock)) := by
     simp [execOp, n2, hev, hrun, Result.andThen]
    rw [hex]
    have hmem : en ∈ (es.toList.filter fun e => !seen.contains e.born) := by
     unfold leftOf at hen
     rwa [Array.toList_filter] at hen
    obtain ⟨L1, L2, hL⟩ := List.append_of_mem hmem
    exact fin (.bool true) _ (.inr rfl) [en.key, en.val] _ (.inr ⟨L1, L2, en, w'', _, _, hL, tev _ _, rfl, hw'', rfl⟩)
 ·have hlr : lr.take n0 ++ [og] = lr := by rw [← hr0, List.take_append_drop]
  suffices hs : wpList P lr.toArray (NQ fun a2 w2 => ∃ r bm clock es Zm w1 left seen c0 E fx', w1.heap[bm]? = some (.map es clock) ∧ Zm bm ∧ Go.MapKept.Stamped es clock ∧ MapAt fx J (MEnt w1 Zm ag kf vf) f o r bm clock es Zm w1 left b0 seen c0 E fx' a2 w2) (lr.take n0 ++ [og]) a w by
   rwa [hlr] at hs
  refine wpList_app ?_
  refine h0 fx a w _ hm fun S' a1 w1 hS' hm1 => ⟨rfl, ?_⟩
  obtain ⟨E1, m1⟩ := hS' fx a1 w1 hm1
  have hxv := m1.ev x
  rw [hx] at hxv
  obtain ⟨bm, es, clock, v1, v2, v3, v4, _, v6, v7⟩ := hxv
  have hrun := run_range_map (P := P) w1 t k e bm es clock (by rw [← hd]; exact (tyOf_spec hT).1) v3
  unfold wpList
  rw [if_pos (by simp [Region.wanted, g1])]
  refine .inl ?_
  unfold Oper.wp
  have hex : (execOp a1.eval og).run P w1 = .ok (.value (itv w1.heap.size)) (w1.alloc (.mapIter (some bm) clock #[] clock)) := by
   simp [execOp, g2, v1, hrun, Result.andThen, itv]
  rw [hex]
  rw [Oper.upon_value, wpList]
  refine ⟨rfl, ?_⟩
  have m2 := (m1.grow (grow_alloc w1 (.mapIter (some bm) clock #[] clock))).put og.dst (v := .d (.lit (itv w1.heap.size))) (x := itv w1.heap.size) ⟨rfl, rfl⟩
  rw [g3] at m2 ⊢
  have hsz2 : (w1.alloc (.mapIter (some bm) clock #[] clock)).heap.size = w1.heap.size + 1 := World.size_alloc _ _
  generalize hw2 : w1.alloc (.mapIter (some bm) clock #[] clock) = w2 at *
  have hnew : w2.heap[w1.heap.size]? = some (.mapIter (some bm) clock #[] clock) := by rw [← hw2]; exact World.alloc_heap_new w1 _
  have hold : ∀ z, z < w1.heap.size → w2.heap[z]? = w1.heap[z]? := fun z hz => by rw [← hw2]; exact (grow_alloc w1 _).block z hz
  have hrec : ∀ l, fx.ro = some l → Free (S1.put (some it) (.d (.lit (itv w1.heap.size)))).hp E1 l ∧ ∃ q, w2.heap[l]? = some (.loop q) := fun l hl => by
   obtain ⟨k1, k2, k3, q, k4⟩ := fx.lrec l hl
   exact ⟨m2.apart k1 k2 k3, q, (m2.frame.block l k1 k2).trans k4⟩
  have m3 := m2.now fx.roots (a1.put (some it) (itv w1.heap.size)).defers fx.ro hrec m2.roots
  obtain ⟨fxn, hfxn⟩ : ∃ fxn, fxn = Fx.now w2 E1 (S1.put (some it) (.d (.lit (itv w1.heap.size)))).hp fx.roots (a1.put (some it) (itv w1.heap.size)).defers fx.ro hrec m2.go := ⟨_, rfl⟩
  have hext : Ext fx fxn := by
   rw [hfxn]
   exact ⟨rfl, m2.frame, fun z ⟨i, hi, hn⟩ => m2.mine i hi z hn, m2.z, rfl, [], m2.dfr, List.nodup_nil, fun _ h => by cases h⟩
  rw [← hfxn] at m3
  obtain ⟨E2, m4⟩ := hJ0 _ fxn _ _ ⟨E1, m3⟩
  have hw0 : fxn.w0 = w2 := by rw [hfxn]; rfl
  have hL : ∀ z, fxn.L z → lof E1 S1.hp z := fun z hz => by rw [hfxn] at hz; exact hz
  have hZ : ∀ z, fxn.Z0 z → E1.Z z := fun z hz => by rw [hfxn] at hz; exact hz
  have hZlt := m1.ok.zlt
  refine ⟨w1.heap.size, bm, clock, es, E1.Z, w1, m, #[], clock, E2, fxn, v3, v2, v4, ⟨hext, m4, hnew, Nat.le_refl _, ⟨fun i hi hn => ?_, fun hz => ?_⟩, fun z hz i hi hn => ?_, fun z hz => hold z (hZlt z hz), fun z hz => ?_, m1.z, ⟨[], ?_, fun _ h => by cases h⟩, ?_, hall, fun hz => ?_, m1.frame.size⟩⟩
  ·rcases m4.mine i hi _ hn with g | g
   ·rw [hw0, hsz2] at g; omega
   ·have := m1.ok.lof_lt (hL _ g); omega
  ·rcases m4.z _ hz with g | g | g
   ·have := hZlt _ (hZ _ g); omega
   ·rw [hw0, hsz2] at g; omega
   ·have := m1.ok.lof_lt (hL _ g); omega
  ·rcases m4.mine i hi _ hn with g | g
   ·rw [hw0, hsz2] at g; have := hZlt z hz; omega
   ·obtain ⟨j, g1, g2⟩ := hL _ g
    exact m1.ok.apart j g1 z g2 hz
  ·rw [hsz2]; have := hZlt z hz; omega
  ·rw [hfxn]; exact m2.dfr
  ·have : (es.toList.filter fun e => !(#[] : Array Nat).contains e.born) = es.toList := by simp
   rw [this]
   exact Rel2.of_map v6 v7
  ·have := hZlt _ hz; omega
end Go.Ab
end
section
namespace Go.Ab
open Go.RowKit

def appW {α : Type} (b : Nat) (xs ys : List α) : Option (List α) := if (xs.length + ys.length + (xs.length + ys.length) / 4 + 192) * b ≤ 281474976710656 ∧ xs.length + ys.length ≤ maxLen then some (xs ++ ys) else none
theorem appW_some {α : Type} {b : Nat} {xs ys zs : List α} (h : appW b xs ys = some zs) : ((xs.length + ys.length + (xs.length + ys.length) / 4 + 192) * b ≤ 281474976710656 ∧ xs.length + ys.length ≤ maxLen) ∧ xs ++ ys = zs := by
 obtain ⟨h1, h2⟩ := gsome h
 injection h2 with h2
 exact ⟨h1, h2⟩
theorem appW_of {α : Type} {b : Nat} {xs ys : List α} (h : (xs.length + ys.length + (xs.length + ys.length) / 4 + 192) * b ≤ 281474976710656) (h2 : xs.length + ys.length ≤ maxLen) : appW b xs ys = some (xs ++ ys) := if_pos ⟨h, h2⟩

theorem run_append_where_wide {P : Program} (w : World) (base : Nat) (t ty e : TypeId) (i : TypeInfo) (z : Value) (size bytes : Nat) (ht : P.underlying t = some (.slice e)) (hi : P.info? e = some i) (hz : i.zero = some z)
  (hsize : i.size = size) (hby : i.bytes = bytes) (hzs : z.cells.size = size) (hsz : 0 < size)
  (v : Value) (n : Nat) (flat : List Value) (hown : w.ownsRow base e size v n flat)
  (a : Addr) (m c : Nat) (news : List Value) (hl : news.length = m * size) (hnews : ∀ j u, news[j]? = some u → w.cell? (a.add j) = some u) (h1 : ∀ u ∈ news, u.oneCell' = true)
  (hbytes : (n + m + (n + m) / 4 + 192) * bytes ≤ 281474976710656) (h63 : n + m ≤ maxLen) (hbase : base ≤ w.heap.size) :
  ∃ v' w', (Builtin.append_ #[t, t] ty #[v, .slice (some a) m c]).run P w = .ok v' w' ∧ w'.ownsRow base e size v' (n + m) (flat ++ news) ∧ w.grownBy w' v.ownBlock ∧
   (v'.ownBlock = v.ownBlock ∨ ∃ g, v'.ownBlock = some g ∧ w.heap.size ≤ g) := by
 obtain ⟨v', w', hr, h2, h3, _⟩ := run_append_own_wide (P := P) w base t ty e i z size bytes ht hi hz hsize hby hzs hsz v n flat hown a m c news hl hnews h1 h63 hbytes hbase
 refine ⟨v', w', hr, h2, h3, ?_⟩
 rcases hown.2 with ⟨rfl, h0⟩ | ⟨g, cap, cur, rfl, hbg, hg, hnc, hcm, hcs, htake⟩
 ·by_cases hm : m = 0
  ·rw [hm] at hr
   have : (Builtin.append_ #[t, t] ty #[.slice none 0 0, .slice (some a) 0 c]).run P w = .ok (.slice none 0 0) w := by
    simp [Builtin.append_, run_underlying ht, sizeOf, typeInfo, hi, Builtin.lenOf, Builtin.firstCells, loadCells, loadCellsFrom]
   rw [this] at hr
   injection hr with e1 e2
   subst e1
   exact .inl rfl
  ·have := run_append_nil (P := P) w t ty e i z ht hi hz a m c news (by rw [hsize]; exact hl) hnews (by omega) (by unfold maxLen at h63; omega) (by rw [hby]; rw [h0, Nat.zero_add] at hbytes; exact Nat.le_trans (Nat.mul_le_mul_right _ (by omega)) hbytes)
   rw [this] at hr
   injection hr with e1 e2
   subst e1
   exact .inr ⟨_, rfl, Nat.le_refl _⟩
 ·by_cases hroom : n + m ≤ cap
  ·have hfit : n * i.size + news.length ≤ cur.size := by rw [hl, hcs, hsize, ← Nat.add_mul]; exact Nat.mul_le_mul_right _ hroom
   have := run_append_room (P := P) w t ty e i ht hi g n cap cur hg a m c news (by rw [hsize]; exact hl) hnews h1 hroom hfit
   rw [this] at hr
   injection hr with e1 e2
   subst e1
   exact .inl rfl
  ·have holds : ∀ j u, flat[j]? = some u → w.cell? ((⟨g, 0, none⟩ : Addr).add j) = some u := hown.cells (g := g) rfl
   have := run_append_grow (P := P) w t ty e i z ht hi hz ⟨g, 0, none⟩ n cap flat (by rw [hsize]; exact hown.1) holds a m c news (by rw [hsize]; exact hl) hnews (by omega) (by unfold maxLen at h63; omega) (growslice_fits_wide (by omega) (by rw [hby]; exact hbytes))
   rw [this] at hr
   injection hr with e1 e2
   subst e1
   exact .inr ⟨_, rfl, Nat.le_refl _⟩

theorem Chain.appWide {P : Program} {ops : Array Oper} {o : Oper} {l : List Oper} {S : St} {Q : St → Prop} {c : Call} {s x : Operand} {t e : TypeId} {tt te : TI} {id d len : Nat} {es ys : List (List D)} (hw : wantedV ops S o = some true) (ho : o.op = .call c)
  (hc : c.callee = .builtin .append) (hca : c.args = #[s, x]) (hct : c.argTypes = #[t, t]) (hT : tyOf P t = some tt) (hd : tt.desc = .slice e) (he : tyOf P e = some te) (hdst : o.dst = some d) (hid : S.rts.contains id = false)
  (hs : S.ev s = .ref id 0 len) (hlen : len = es.length) (hH : S.hp id = some (.arr e te.size es)) (hx : S.ev x = .d (.sl ys)) (hys : ys.all (fun y => y.length = te.size) = true)
  (hsz : 0 < te.size) (hzc : te.zero.cells.size = te.size) (hbytes : (es.length + ys.length + (es.length + ys.length) / 4 + 192) * te.bytes ≤ 281474976710656) (h63 : es.length + ys.length ≤ maxLen)
  (h : Chain false P ops l (((S.kill id).setH id (some (.arr e te.size (es ++ ys)))).put (some d) (.ref id 0 (es.length + ys.length))) Q) : Chain false P ops (o :: l) S Q := by
 subst hlen
 intro fx a w Q' ⟨E, m⟩ hq
 unfold wpList
 rw [if_pos (wantedV_sound m hw)]
 refine .inl ?_
 have hid' : id ∉ S.rts := by simpa using hid
 have hsv := m.ev s
 rw [hs] at hsv
 have hxv := m.ev x
 rw [hx] at hxv
 obtain ⟨hu, i0, hi0, hi1, hi2, hi3⟩ := tyOf_spec he
 have htu : P.underlying t = some (.slice e) := by rw [(tyOf_spec hT).1, hd]
 have hys' : ∀ y ∈ ys, y.length = te.size := fun y hy => of_decide_eq_true (List.all_eq_true.1 hys y hy)
 have hown : ∃ flat, w.ownsRow 0 e te.size (a.eval s) es.length flat ∧ RDe w E.Z es flat ∧ (∀ x ∈ es, x.length = te.size) ∧ (∀ b, (a.eval s).ownBlock = some b → S.hp id ≠ none ∧ (E.loc id).nil = false ∧ (E.loc id).b = b) := by
  obtain ⟨g1, g2, g3, g4, g5⟩ := m.ok.hold _ _ hH
  rcases hsv with ⟨h1, _, h3, h4⟩ | ⟨h1, h2, aa, h5, h4⟩
  ·have : es = [] := List.eq_nil_of_length_eq_zero h3
   subst this
   rw [h4]
   exact ⟨[], World.ownsRow_nil _ _ _ _, rfl, (fun x hx => by cases hx), (fun b hb => by cases hb)⟩
  ·rw [h5]
   rcases g5 with ⟨g6, _⟩ | ⟨_, c, flat, k1, k2, k3, k4, k5, k6⟩
   ·rw [h1] at g6; cases g6
   ·have hlen := RDe_length k5 g3
    have ha := h4 (.inl rfl)
    rw [g2] at ha
    simp only [Nat.zero_mul, Nat.add_zero, Nat.sub_zero] at ha ⊢
    subst ha
    exact ⟨flat, ⟨hlen, .inr ⟨_, _, c, rfl, Nat.zero_le _, k1, k2, k3, k4, k6⟩⟩, k5, g3, fun b hb => ⟨by rw [hH]; simp, h1, by injection hb⟩⟩
 obtain ⟨flat, hrow1, hrow2, hrow3, hrow4⟩ := hown
 have fin : ∀ u w' news, w'.ownsRow 0 e te.size u (es.length + ys.length) (flat ++ news) → RDe w E.Z ys news → w.grownBy w' (a.eval s).ownBlock → (u.ownBlock = (a.eval s).ownBlock ∨ ∃ g, u.ownBlock = some g ∧ w.heap.size ≤ g) →
   ∃ E', Mod fx ((S.kill id).setH id (some (.arr e te.size (es ++ ys)))) E' a w' ∧ RV E' w' (.ref id 0 (es.length + ys.length)) u := by
  intro u w' news hown' hnews hg hwhere
  have hz : ∀ b, (a.eval s).ownBlock = some b → ¬ E.Z b := fun b hb => by
   obtain ⟨h1, h2, h3⟩ := hrow4 b hb
   rw [← h3]; exact m.ok.apart1 id h1 h2
  have hk := Keeps.grown m.ok hg hz
  have hall2 : ∀ y ∈ es ++ ys, y.length = te.size := fun y hy => (List.mem_append.1 hy).elim (hrow3 y) (hys' y)
  have hcat := RDe.keep hk (fun _ h => h) _ _ (RDe_append hrow2 hnews)
  rcases hown'.2 with ⟨rfl, h0⟩ | ⟨g, cap, cur, rfl, _, hgc, hnc, hcm, hcs, htake⟩
  ·have he0 : es ++ ys = [] := List.eq_nil_of_length_eq_zero (by rw [List.length_append]; exact h0)
   exact ⟨_, m.re hid' hg hrow4 ⟨0, 0, te.size, 0, true, fun _ => False⟩ ⟨by simp [Env.at], by simp [Env.at], hall2, hsz, .inl ⟨by simp [Env.at], he0⟩⟩ (fun h => by cases h), .inl ⟨by simp [Env.at], rfl, h0, rfl⟩⟩
  ·refine ⟨_, m.re hid' hg hrow4 ⟨g, 0, te.size, cap, false, fun _ => False⟩ ⟨by simp [Env.at], by simp [Env.at], hall2, hsz, .inr ⟨by simp [Env.at], cur, _, by simpa [Env.at] using hgc, by simpa [Env.at] using hnc, by simpa [Env.at] using hcm, by simpa [Env.at] using hcs, hcat, by rw [List.length_append]; exact htake⟩⟩ (fun _ => ?_), .inr ⟨by simp [Env.at], by simpa [Env.at] using hnc, 0, by simp [Env.at], fun _ => by simp [Env.at]⟩⟩
   rcases hwhere with h | ⟨g', h, hle⟩
   ·exact .inl h
   ·have : g = g' := by injection h
    exact .inr (by rw [this]; exact hle)
 have done : ∃ u w' E', (Builtin.append_ #[t, t] o.type #[a.eval s, a.eval x]).run P w = .ok u w' ∧ Mod fx ((S.kill id).setH id (some (.arr e te.size (es ++ ys)))) E' a w' ∧ RV E' w' (.ref id 0 (es.length + ys.length)) u := by
  rcases srcV_sound m.ok (x := .d (.sl ys)) (by exact hxv) rfl te.size with ⟨hxn, rfl⟩ | ⟨aa, cap, news, hxa, h1, h2⟩
  ·have hrun := run_append_owned_none (P := P) (w := w) 0 t o.type e i0 te.size htu hi0 (a.eval s) es.length flat hrow1
   obtain ⟨E', h1, h2⟩ := fin (a.eval s) w [] (by simpa using hrow1) rfl ⟨rfl, rfl, rfl, Nat.le_refl _, fun _ _ _ => rfl⟩ (.inl rfl)
   exact ⟨_, w, E', by rw [hxn]; exact hrun, h1, h2⟩
  ·obtain ⟨u, w', hrun, g1, g2, g3⟩ := run_append_where_wide (P := P) w 0 t o.type e i0 te.zero te.size te.bytes htu hi0 hi3 hi1 hi2 hzc hsz (a.eval s) es.length flat hrow1 aa ys.length cap news
    (RDe_length h1 hys') h2 (RDe_cell h1) hbytes h63 (Nat.zero_le _)
   obtain ⟨E', k1, k2⟩ := fin u w' news g1 h1 g2 g3
   exact ⟨u, w', E', by rw [hxa]; exact hrun, k1, k2⟩
 obtain ⟨u, w', E', hrun, m', hr⟩ := done
 unfold Oper.wp execOp
 simp only [ho, resolve, hc, hca, hct, invoke, builtin, Sem.run_bind, Sem.run_pure, Result.andThen_ok, List.map_toArray, List.map_cons, List.map_nil, hrun, Oper.upon, hdst]
 exact h fx _ _ Q' ⟨E', m'.put (some d) hr⟩ hq
/-! short words for packed texts -/
@[simp] def FT (b : Nat → Bool) : List Nat → Prop
 | [] => True
 | j :: r => b j = true ∧ FT b r
@[simp] def FD (b : Nat → Bool) (i : Nat) : List (List Nat) → Nat → Prop
 | [], _ => True
 | a :: r, k => (a.contains i = true → b k = false) ∧ FD b i r (k + 1)
theorem FT_of {b : Nat → Bool} : ∀ {l : List Nat}, (∀ j, j ∈ l → b j = true) → FT b l
 | [], _ => trivial
 | j :: _r, h => ⟨h j (.head _), FT_of fun k hk => h k (.tail _ hk)⟩
theorem FD_of {b : Nat → Bool} {i : Nat} : ∀ {L : List (List Nat)} {n : Nat}, (∀ k, i ∈ L.getD k [] → b (n + k) = false) → FD b i L n
 | [], _, _ => trivial
 | a :: r, n, h => ⟨fun hc => h 0 (by simpa using hc), FD_of (n := n + 1) fun k hk => by
   have := h (k + 1) (by simpa using hk)
   rwa [show n + (k + 1) = n + 1 + k by omega] at this⟩
theorem fct {b : Nat → Bool} {i : Nat} {L : List (List Nat)} (h0 : b i = false) (ha : ∀ j, j ∈ L.getD i [] → b j = true) (hd : ∀ k, i ∈ L.getD k [] → b k = false) : b i = false ∧ FT b (L.getD i []) ∧ FD b i L 0 :=
 ⟨h0, FT_of ha, FD_of fun k hk => by rw [Nat.zero_add]; exact hd k hk⟩
theorem Chain.tt {q : Bool} {P : Program} {ops : Array Oper} {lo : List Oper} {nt : Nat} {rts : List Nat} {l : List (Nat × V)} {h : List (Nat × Option Blk)} {Q : St → Prop} (l' : List (Nat × V)) (h' : List (Nat × Option Blk)) (k : Chain q P ops lo (mk nt rts l' h') Q)
  (hl : ∀ p ∈ l', p.2 = tlook l p.1 := by simp) (hh : ∀ p ∈ h', p.2 = hlook h p.1 := by simp) : Chain q P ops lo (mk nt rts l h) Q := Chain.sub (.table hl hh) k
theorem AW.tt {P : Program} {c : Code} {nt : Nat} {rts : List Nat} {l : List (Nat × V)} {h : List (Nat × Option Blk)} {Q : Exit → St → Prop} (l' : List (Nat × V)) (h' : List (Nat × Option Blk)) (k : AW P c (mk nt rts l' h') Q)
  (hl : ∀ p ∈ l', p.2 = tlook l p.1 := by simp) (hh : ∀ p ∈ h', p.2 = hlook h p.1 := by simp) : AW P c (mk nt rts l h) Q := AW.sub (.table hl hh) k
theorem Chain.st {q : Bool} {P : Program} {ops : Array Oper} {lo : List Oper} {S : St} {Q : St → Prop} (S' : St) (k : Chain q P ops lo S' Q) (hs : Sub S S' := by (simp; exact Sub.table (by simp) (by simp))) : Chain q P ops lo S Q := Chain.sub hs k
theorem AW.st {P : Program} {c : Code} {S : St} {Q : Exit → St → Prop} (S' : St) (k : AW P c S' Q) (hs : Sub S S' := by (simp; exact Sub.table (by simp) (by simp))) : AW P c S Q := AW.sub hs k
end Go.Ab
end
