/- The abstract machine: is a slice nil, where that is open; equality of structs and arrays of plain cells. Functional programs: contracts of functions that change what they are lent. Functional programs: maps as lists of pairs. Plain lemmas on functional programs: loops over lists and ranges. Functional programs: arrays of many cells as flat lists. Functional programs: contracts of functions that hand back a row of their own. The abstract machine: an append to a slice without room: the elements are copied. Functional programs: maps as data, strings, functions without captured variables. The abstract machine: room made ahead by an append of zeros to nil; the capacity of nil. Functional programs: cells of maps, rooms, bytes of strings. Functional programs: copy into an own row, remainders of uint64, cases of optional objects. Functional programs: zeros appended to an own row. The abstract machine: ranges over slices.Backward's function. The abstract machine: the rule of a range over slices.Backward's function. The abstract machine: calls that look at own rows and hand back rows of literals. The abstract machine: the library's sorts on own rows (the kit's contracts, as contracts of functions that are lent a row). The abstract machine: slices.SortFunc on an own row (the kit's contract, as a contract of a function that is lent a row). The abstract machine: appends to a row whose first elements have been cut off; loops whose state hides how the row lies. The abstract machine: drawn regions whose first operations only look and call, and whose effects stand at the end. Functional programs: errors as truth values; contracts of the library's functions. The abstract machine: maps: their length. The abstract machine: functions that hand back a map of their own (maps.Clone); two calls at once (slices.Sorted(maps.Keys(m))). The abstract machine: rows within own rows. -/
import Derived.Test.YtfdhaigfonolpaaA2
import Derived.Lib.AppendZeros
import Derived.Laws.CopyRow
import Derived.Laws.IdiomCopy
import Derived.Lib.AppendZerosOnto
import Derived.RangeFuncSeq
import Derived.RangeFuncBox
import Derived.RangeFuncLeaves
import Derived.Shelf.Abstract
import Derived.WalkKit
import Derived.OwnWalkIn
import Derived.TacticsInMore
import Derived.LoopNIn
import Derived.LoopIn
import Derived.Shelf.Sort.Plain
import Derived.Shelf.Slices.In.SortNone
import Derived.Shelf.SlSortCmp.NoneTotal
import Derived.Sort.KeysCollected
import Derived.Maps.Own
section
namespace Go.Ab
open Go.RowKit
theorem Chain.eqNilE {q : Bool} {P : Program} {ops : Array Oper} {o : Oper} {l : List Oper} {S : St} {Q : St → Prop} {T T' e : TypeId} {ti : TI} {x y : Operand} {es : List (List D)} (hw : wantedV ops S o = some true) (ho : o.op = .binOp .eql T x y T')
  (hT : tyOf P T = some ti) (hd : ti.desc = .slice e) (hx : S.ev x = .d (.sl es)) (hy : S.ev y = .d (.lit (.slice none 0 0)))
  (h : ∀ b : Bool, (es ≠ [] → b = false) → Chain q P ops l (S.put o.dst (.d (.lit (.bool b)))) Q) : Chain q P ops (o :: l) S Q := by
 have go : ∀ fx a w E, Mod fx S E a w → ∃ b : Bool, (es ≠ [] → b = false) ∧ ∀ w', (execOp a.eval o).run P w' = .ok (.value (.bool b)) w' := by
  intro fx a w E m
  have h1 := m.ev x
  rw [hx] at h1
  obtain ⟨A, cap, hv, h2, _, h3, _⟩ := h1
  have h4 := m.ev y
  rw [hy] at h4
  have h4 : a.eval y = _ := h4.1
  refine ⟨A.isNone, fun hne => ?_, fun w' => ?_⟩
  ·cases A with
   | some a => rfl
   | none =>
    have := h3 rfl
    exact absurd (List.eq_nil_of_length_eq_zero (by omega)) hne
  ·unfold execOp
   rw [ho]
   have hu := run_und hT w'
   rw [hd] at hu
   simp only [hv, h4]
   have := (run_eq_of (P := P) (T := T) (x := .slice A es.length cap) (y := .slice none 0 0) (r := A.isNone) (w := w') (equal_of fun d => by cases A <;> simp [Op.equalIn, hu]) x y ⟨rfl, rfl⟩ ⟨rfl, rfl⟩).1
   have hgd : (eqGuard .eql T x y (.slice A es.length cap) (.slice none 0 0)).run P w' = .ok () w' := rfl
   rw [Sem.run_bind, hgd] at this
   simp only [Result.andThen_ok] at this
   simp [Sem.run_bind, hgd, this]
 cases q with
 | false =>
  intro fx a w Q' ⟨E, m⟩ hq
  have hw' := wantedV_sound m hw
  obtain ⟨b, hb, hrun⟩ := go fx a w E m
  unfold wpList
  rw [if_pos hw']
  refine .inl ?_
  unfold Oper.wp
  rw [hrun w]
  exact h b hb fx _ w Q' ⟨E, m.put o.dst ⟨rfl, rfl⟩⟩ hq
 | true =>
  intro fx a w Q' ⟨E, m⟩ hq
  have hw' := wantedV_sound m hw
  obtain ⟨b, hb, hrun⟩ := go fx a w E m
  unfold wpQuiet
  rw [if_pos hw']
  refine ⟨.bool b, fun w' hg => ?_, h b hb fx _ w Q' ⟨E, m.put o.dst ⟨rfl, rfl⟩⟩ hq⟩
  unfold Oper.quietAt
  rw [hrun w']
  exact ⟨rfl, rfl⟩
theorem part_lit {P : Program} {T : TypeId} {ti : TI} (hT : tyOf P T = some ti) (hr : isRow ti.desc = false) {l : Array Value} {i : Nat} {v : Value} (h : l[i]? = some v) (w : World) : (part T l i).run P w = .ok v w := by
 have hu := run_und hT w
 unfold isRow TypeDesc.row at hr
 have hagg : (isAgg T).run P w = .ok false w := by
  unfold isAgg
  rw [Sem.run_bind, hu]
  cases hd : ti.desc <;> simp_all
 simp [part, hagg, h]
theorem eqF_nil {P : Program} {d : Nat} {xs ys : Array Value} (w : World) : (Op.eqFields d xs ys []).run P w = .ok true w := rfl
theorem eqF_cons {P : Program} {d : Nat} {xs ys : Array Value} {f : Field} {fs : List Field} {a b : Value} {r r' : Bool} (hn : f.name ≠ "_") (ha : ∀ w, (part f.type xs f.offset).run P w = .ok a w) (hb : ∀ w, (part f.type ys f.offset).run P w = .ok b w)
  (he : ∀ w, (Op.equalIn d f.type a b).run P w = .ok r w) (hrest : ∀ w, (Op.eqFields d xs ys fs).run P w = .ok r' w) (w : World) : (Op.eqFields d xs ys (f :: fs)).run P w = .ok (r && r') w := by
 unfold Op.eqFields
 rw [if_pos hn]
 cases r <;> simp [ha w, hb w, he w, hrest w]
theorem eqS_of {P : Program} {T : TypeId} {xs ys : Array Value} {fs : List Field} {r : Bool} {d : Nat} (ht : P.underlying T = some (.struct (P.fieldsOf T))) (hp : P.stoodInHeld T = false) (hf : (P.fieldsOf T).toList = fs)
  (h : ∀ w, (Op.eqFields d xs ys fs).run P w = .ok r w) (w : World) : (Op.equalIn (d + 1) T (.agg xs) (.agg ys)).run P w = .ok r w := by
 rw [run_equalIn_struct w d T xs ys ht hp, hf]
 exact h w
end Go.Ab
end
section
namespace Go.Ab
open Go.RowKit
def FunM (P : Program) (f : FuncId) (args : List V) (h0 : List (Nat × Option Blk)) (rts : List Nat) (v : V) (h1 : List (Nat × Blk)) : Prop :=
 Ctr P f args (hlook h0) rts (fun r H => r = v ∧ ∀ q ∈ h1, H q.1 = some q.2)
def FinF (P : Program) (fn : Func) (v : V) (h1 : List (Nat × Blk)) (e : Exit) (S : St) : Prop := (e = .normal ∨ e = .ret) ∧ outV (tyOf P) fn.results.toList S = some v ∧ ∀ q ∈ h1, S.hp q.1 = some q.2
theorem FinF.ret {P : Program} {fn : Func} {v : V} {h1 : List (Nat × Blk)} {S : St} (h2 : outV (tyOf P) fn.results.toList S = some v) (h3 : ∀ q ∈ h1, S.hp q.1 = some q.2) : FinF P fn v h1 .ret S := ⟨.inr rfl, h2, h3⟩
theorem FunM.enter {P : Program} {f : FuncId} {fn : Func} {c : Code} {args : List V} {h0 : List (Nat × Option Blk)} {rts : List Nat} {v : V} {h1 : List (Nat × Blk)} (nt : Nat) (l : List (Nat × V)) (hf : P.funcs[f]? = some fn) (hb : fn.body = some c) (hle : args.length ≤ fn.ntmps) (hn : fn.ntmps = nt) (hl : enterL args 0 = l)
  (h : AW P c (mk nt rts l h0) (FinF P fn v h1)) : FunM P f args h0 rts v h1 := by
 subst hn; subst hl
 exact Ctr.of hf hb hle (h.mono fun e S ⟨h1, h2, h3⟩ => ⟨h1, v, h2, rfl, h3⟩)
theorem Chain.callFG {P : Program} {ops : Array Oper} {o : Oper} {l : List Oper} {S : St} {Q' : St → Prop} {f : FuncId} {full args : List V} {rts : List Nat} {h0 : List (Nat × Option Blk)} {v : V} {h1 : List (Nat × Blk)} (hF : FunM P f args h0 rts v h1)
  (lent : List (Nat × Nat)) (rt : List Nat) (pl : List (Nat × Nat)) (bl : List (Nat × Blk)) (r' : V)
  (hw : wantedV ops S o = some true) (hto : CallsTo P S o f full)
  (hargs : rnmL lent full = some args) (hks : (lent.map (·.1)).Nodup) (hcs : (lent.map (·.2)).Nodup)
  (hlent : ∀ p ∈ lent, ∃ b b', S.hp p.1 = some b ∧ b.rnm lent = some b' ∧ hlook h0 p.2 = some b') (honly : ∀ q ∈ h0, ∃ p ∈ lent, p.2 = q.1)
  (hp1 : (pl.map (·.1)).Nodup) (hp2 : (pl.map (·.2)).Nodup) (hhere : ∀ p ∈ pl, ∃ b, (p.1, b) ∈ h1)
  (hroot : ∀ p ∈ pl, (rt.contains p.2 = true ∧ (p.2, p.1) ∈ lent ∧ p.1 ∈ rts) ∨ (rt.contains p.2 = false ∧ p.2 ∉ S.rts))
  (hblk : ∀ q ∈ bl, ∃ c b, (c, q.1) ∈ pl ∧ (c, b) ∈ h1 ∧ b.rnm pl = some q.2) (hres : v.rnm pl = some r')
  (hrest : Chain false P ops l (S.after lent rt pl bl o.dst r') Q') : Chain false P ops (o :: l) S Q' := by
 refine Chain.callMG lent rt hw hto hargs hks hcs hlent honly hF fun r H1 ⟨hr, hh⟩ => ⟨pl, bl, r', ⟨hp1, hp2, fun p hp => ?_, hroot, fun q hq => ?_, by rw [hr]; exact hres⟩, hrest⟩
 ·obtain ⟨b, hb⟩ := hhere p hp
  rw [hh _ hb]; simp
 ·obtain ⟨c, b, h2, h3, h4⟩ := hblk q hq
  exact ⟨c, b, h2, hh _ h3, h4⟩
theorem Chain.callF {P : Program} {ops : Array Oper} {o : Oper} {l : List Oper} {S : St} {Q' : St → Prop} {c : Call} {f : FuncId} {caps args : List V} {rts : List Nat} {h0 : List (Nat × Option Blk)} {v : V} {h1 : List (Nat × Blk)} (hF : FunM P f args h0 rts v h1)
  (lent : List (Nat × Nat)) (rt : List Nat) (pl : List (Nat × Nat)) (bl : List (Nat × Blk)) (r' : V)
  (hw : wantedV ops S o = some true) (ho : o.op = .call c)
  (hcal : calleeV S c = some (f, caps)) (hargs : rnmL lent (c.args.toList.map S.ev ++ caps) = some args) (hks : (lent.map (·.1)).Nodup) (hcs : (lent.map (·.2)).Nodup)
  (hlent : ∀ p ∈ lent, ∃ b b', S.hp p.1 = some b ∧ b.rnm lent = some b' ∧ hlook h0 p.2 = some b') (honly : ∀ q ∈ h0, ∃ p ∈ lent, p.2 = q.1)
  (hent : Rp.Enters P f)
  (hp1 : (pl.map (·.1)).Nodup) (hp2 : (pl.map (·.2)).Nodup) (hhere : ∀ p ∈ pl, ∃ b, (p.1, b) ∈ h1)
  (hroot : ∀ p ∈ pl, (rt.contains p.2 = true ∧ (p.2, p.1) ∈ lent ∧ p.1 ∈ rts) ∨ (rt.contains p.2 = false ∧ p.2 ∉ S.rts))
  (hblk : ∀ q ∈ bl, ∃ c b, (c, q.1) ∈ pl ∧ (c, b) ∈ h1 ∧ b.rnm pl = some q.2) (hres : v.rnm pl = some r')
  (hrest : Chain false P ops l (S.after lent rt pl bl o.dst r') Q') : Chain false P ops (o :: l) S Q' :=
 Chain.callFG hF lent rt pl bl r' hw (.value hcal hent ho) hargs hks hcs hlent honly hp1 hp2 hhere hroot hblk hres hrest
end Go.Ab
end
section
namespace Go.Ab
open Go.RowKit
def V.lift (g : V → V) : V → V
 | .agg cs => if (cs.map g).all V.cell = true then .agg (cs.map g) else .junk
 | .tup cs => .tup (cs.map g)
 | .fn f cs => .fn f (cs.map g)
 | v => g v
def Blk.lift (g : V → V) : Blk → Option Blk
 | .box cs => if (cs.map g).all V.cell = true then some (.box (cs.map g)) else none
 | b => some b
def liftL (g : V → V) : List (Nat × V) → List (Nat × V)
 | [] => []
 | (k, v) :: r => (k, v.lift g) :: liftL g r
def liftH (id : Nat) (g : V → V) : List (Nat × Option Blk) → List (Nat × Option Blk)
 | [] => []
 | (k, b) :: r => (k, if k = id then none else b.bind (Blk.lift g)) :: liftH id g r
theorem look_liftL {g : V → V} (hj : g .junk = .junk) : ∀ (l : List (Nat × V)) (i : Nat), tlook (liftL g l) i = (tlook l i).lift g
 | [], _ => hj.symm
 | (k, v) :: r, i => by
  show (if i = k then v.lift g else tlook (liftL g r) i) = _
  rw [look_liftL hj r i]
  show _ = (if i = k then v else tlook r i).lift g
  split <;> rfl
theorem hlook_liftH (id : Nat) (g : V → V) : ∀ (l : List (Nat × Option Blk)) (i : Nat), hlook (liftH id g l) i = if i = id then none else (hlook l i).bind (Blk.lift g)
 | [], i => by simp [liftH, hlook]
 | (k, b) :: r, i => by
  show (if i = k then (if k = id then none else b.bind (Blk.lift g)) else hlook (liftH id g r) i) = _
  rw [hlook_liftH id g r i]
  show _ = if i = id then none else (if i = k then b else hlook r i).bind (Blk.lift g)
  by_cases h : i = k
  ·subst h; simp
  ·simp [h]
theorem RV.lift {E E' : Env} {w : World} {g : V → V} (hg : ∀ c v, RV E w c v → RV E' w (g c) v) : ∀ (c : V) (v : Value), RV E w c v → RV E' w (c.lift g) v := by
 intro c v h
 cases c with
 | agg cs =>
  show RV E' w (if _ then _ else _) v
  split
  ·rename_i hall
   obtain ⟨vs, h1, h2, h3⟩ := h
   exact ⟨vs, h1, List.all_eq_true.1 hall, RVs.frz hg h3⟩
  ·trivial
 | tup cs =>
  obtain ⟨vs, h1, h3⟩ := h
  exact ⟨vs, h1, RVs.frz hg h3⟩
 | fn f cs =>
  obtain ⟨vs, h1, h3⟩ := h
  exact ⟨vs, h1, RVs.frz hg h3⟩
 | ref i off len => exact hg _ _ h
 | d x => exact hg _ _ h
 | ptr id i off => exact hg _ _ h
 | mref id => exact hg _ _ h
 | dx es => exact hg _ _ h
 | hole => exact hg _ _ h
 | junk => exact hg _ _ h
theorem Sub.toZ {nt : Nat} {rts : List Nat} {l : List (Nat × V)} {h : List (Nat × Option Blk)} (id : Nat) (g : V → V) {blk : Blk} (hes : hlook h id = some blk) (hj : g .junk = .junk)
  (hg : ∀ (E : Env) (w : World), Hold E w id blk → ∀ E' : Env, E'.loc = E.loc → (∀ b, E.Z b → E'.Z b) → ((E.loc id).nil = false → E'.Z (E.loc id).b) → ∀ c v, RV E w c v → RV E' w (g c) v) : Sub (mk nt rts l h) (mk nt rts (liftL g l) (liftH id g h)) := .of fun fx a w E m => by
 have hold := m.ok.hold id _ hes
 have hz : ∀ b, E.Z b → (E.Z b ∨ ((E.loc id).nil = false ∧ b = (E.loc id).b)) := fun _ h => .inl h
 have hne : (mk nt rts l h).hp id ≠ none := by rw [show (mk nt rts l h).hp id = _ from hes]; simp
 have fr1 : ∀ c v, RV E w c v → RV { E with Z := fun b => E.Z b ∨ ((E.loc id).nil = false ∧ b = (E.loc id).b) } w (g c) v := fun c v hc => hg E w hold { E with Z := fun b => E.Z b ∨ ((E.loc id).nil = false ∧ b = (E.loc id).b) } rfl hz (fun hn => .inr ⟨hn, rfl⟩) c v hc
 have get : ∀ i, hlook (liftH id g h) i ≠ none → i ≠ id ∧ hlook h i ≠ none := fun i hi => by
  rw [hlook_liftH] at hi
  by_cases e : i = id
  ·rw [if_pos e] at hi; exact absurd rfl hi
  ·rw [if_neg e] at hi
   refine ⟨e, fun e2 => ?_⟩
   rw [e2] at hi; exact hi rfl
 refine ⟨{ E with Z := fun b => E.Z b ∨ ((E.loc id).nil = false ∧ b = (E.loc id).b) }, m.nt, fun t => ?_, m.dfr, ⟨fun i b hi => ?_, fun i j hi hj => m.ok.inj i j (get i hi).2 (get j hj).2, fun i hi b hn hb => ?_, fun b hb => ?_, fun i hi => m.ok.xlt i (get i hi).2⟩, m.frame, fun i hi => m.mine i (get i hi).2, fun b hb => ?_, m.roots⟩
 ·have := RV.lift fr1 _ _ (m.slots t)
  show RV _ w (tlook (liftL g l) t) _
  rw [look_liftL hj]
  exact this
 ·have hi' : hlook (liftH id g h) i = some b := hi
  rw [hlook_liftH] at hi'
  by_cases e : i = id
  ·rw [if_pos e] at hi'; cases hi'
  ·rw [if_neg e] at hi'
   cases hb : hlook h i with
   | none => rw [hb] at hi'; cases hi'
   | some b0 =>
    rw [hb] at hi'
    have hh := m.ok.hold i b0 hb
    cases b0 with
    | box cs =>
     have hi' : (if (cs.map g).all V.cell = true then some (Blk.box (cs.map g)) else none) = some b := hi'
     split at hi'
     ·rename_i hall
      injection hi' with hi'
      subst hi'
      obtain ⟨hn, h1, vs, h2, h3, h4, h5⟩ := hh
      exact ⟨hn, List.all_eq_true.1 hall, vs, RVs.frz fr1 h2, h3, h4, h5⟩
     ·cases hi'
    | arr T n es =>
     injection hi' with hi'
     subst hi'
     exact hh.keep (E' := { E with Z := fun b => E.Z b ∨ ((E.loc id).nil = false ∧ b = (E.loc id).b) }) (fun _ _ => rfl) hz rfl (fun _ _ => rfl) (Nat.le_refl _)
    | mp kd l =>
     injection hi' with hi'
     subst hi'
     exact hh.keep (E' := { E with Z := fun b => E.Z b ∨ ((E.loc id).nil = false ∧ b = (E.loc id).b) }) (fun _ _ => rfl) hz rfl (fun _ _ => rfl) (Nat.le_refl _)
    | nest T n sh es fo =>
     injection hi' with hi'
     subst hi'
     exact hh.keep (E' := { E with Z := fun b => E.Z b ∨ ((E.loc id).nil = false ∧ b = (E.loc id).b) }) (fun _ _ => rfl) hz rfl (fun _ _ => rfl) (Nat.le_refl _)
    | hid p =>
     injection hi' with hi'
     subst hi'
     exact hh.keep (E' := { E with Z := fun b => E.Z b ∨ ((E.loc id).nil = false ∧ b = (E.loc id).b) }) (fun _ _ => rfl) hz rfl (fun _ _ => rfl) (Nat.le_refl _)
 ·obtain ⟨hne2, hi2⟩ := get i hi
  rcases hb with hb | ⟨hn2, hb⟩
  ·exact m.ok.apart i hi2 b hn hb
  ·exact m.ok.inj i id hi2 hne hne2 b hn (.inl ⟨hn2, hb.symm⟩)
 ·rcases hb with hb | ⟨hn2, hb⟩
  ·exact m.ok.zlt b hb
  ·rw [hb]; exact hold.block_lt hn2
 ·rcases hb with hb | ⟨hn2, hb⟩
  ·exact m.z b hb
  ·rw [hb]
   rcases m.mine1 id hne hn2 with h | h
   ·exact .inr (.inl h)
   ·exact .inr (.inr h)
def frzP (id : Nat) (ds : List D) : V → V
 | .ptr i k off => if i = id then (if k = 0 then .d (.pim (ds.drop off)) else .junk) else .ptr i k off
 | v => v
attribute [simp] V.lift Blk.lift liftL liftH frzP
theorem RVs_setAt {E : Env} {w : World} {c : V} : ∀ {cs : List V} {vs : List Value} {j : Nat} {v : Value}, RVs E w cs vs → vs[j]? = some v → RV E w c v → RVs E w (cs.set j c) vs
 | [], vs, j, v, h, hv, _ => by
  have : vs = [] := h
  subst this; simp at hv
 | x :: cs, _, 0, v, ⟨u, r, h, h1, h2⟩, hv, hc => by
  subst h
  simp at hv; subst hv
  exact ⟨_, r, rfl, hc, h2⟩
 | x :: cs, _, j + 1, v, ⟨u, r, h, h1, h2⟩, hv, hc => by
  subst h
  exact ⟨u, r, rfl, h1, RVs_setAt h2 (by simpa using hv) hc⟩
theorem Sub.nilOwnBox {S : St} {bid j id T n : Nat} {cs : List V} (hcs : S.hp bid = some (.box cs)) (hj : cs[j]? = some (.d (.lit (.slice none 0 0)))) (hne : bid ≠ id) (hid : S.rts.contains id = false) (hn : 0 < n) :
  Sub S (((S.kill id).setH id (some (.arr T n []))).setH bid (some (.box ((killC id cs).set j (.ref id 0 0))))) := .of fun fx a w E m => by
 have hid' : id ∉ S.rts := by simpa using hid
 have m' := m.re (row := none) hid' ⟨rfl, rfl, rfl, Nat.le_refl _, fun _ _ _ => rfl⟩ (fun b hb => by cases hb) ⟨0, 0, n, 0, true, fun _ => False⟩ (blk := .arr T n []) ⟨by simp [Env.at], by simp [Env.at], (fun e he => by cases he), hn, .inl ⟨by simp [Env.at], rfl⟩⟩ (fun h => by cases h)
 obtain ⟨hnil, h1, vs, h2, h3, h4, h5⟩ := m.ok.hold bid _ hcs
 obtain ⟨v, hv, hrv⟩ := RVs_get h2 hj
 have hvn : v = .slice none 0 0 := RD_lit hrv
 subst hvn
 have hloc : (E.at id ⟨0, 0, n, 0, true, fun _ => False⟩).loc bid = E.loc bid := by simp [Env.at, hne]
 refine ⟨_, m'.wr (id := bid) (k0 := .box (killC id cs)) ?_ (by rw [hloc]; exact hnil) ⟨rfl, rfl, rfl, Nat.le_refl _, fun _ _ _ => rfl⟩ ?_⟩
 ·show (if bid = id then _ else if bid = id then _ else (S.hp bid).map (Blk.killed id)) = _
  rw [if_neg hne, if_neg hne, hcs]
  rfl
 ·refine ⟨by rw [hloc]; exact hnil, fun c hc => ?_, vs, RVs_setAt (RVs.killC h1 h2) hv (.inl ⟨by simp [Env.at], rfl, rfl, rfl⟩), by rw [hloc]; exact h3, by rw [hloc]; exact h4, by rw [hloc]; exact h5⟩
  rcases List.mem_or_eq_of_mem_set hc with hc | rfl
  ·exact killC_cell h1 c hc
  ·rfl
def delL {α : Type} (xs : List α) (i j : Int) : Option (List α) := if 0 ≤ i ∧ i < j ∧ j ≤ xs.length then some (xs.take i.toNat ++ xs.drop j.toNat) else none
theorem delL_some {α : Type} {xs r : List α} {a b : Int} (c : α → List D) (h : delL xs a b = some r) : ∃ i j : Nat, a = i ∧ b = j ∧ i < j ∧ j ≤ xs.length ∧ r.length = i + (xs.length - j) ∧ r.map c = (xs.map c).take i ++ (xs.map c).drop j := by
 obtain ⟨⟨h1, h2, h3⟩, h4⟩ := gsome h
 injection h4 with h4
 subst h4
 refine ⟨a.toNat, b.toNat, by omega, by omega, by omega, by omega, ?_, by simp⟩
 simp
 omega
section
variable {κ α : Type} [DecidableEq κ]
def mget (m : List (κ × α)) (k : κ) : Option α := (m.find? fun p => decide (p.1 = k)).map (·.2)
def mput (m : List (κ × α)) (k : κ) (v : α) : List (κ × α) := if (mget m k).isSome then m.map (fun p => if p.1 = k then (k, v) else p) else m ++ [(k, v)]
def mdel (m : List (κ × α)) (k : κ) : List (κ × α) := m.filter fun p => !decide (p.1 = k)
theorem mget_cons (p : κ × α) (m : List (κ × α)) (k : κ) : mget (p :: m) k = if p.1 = k then some p.2 else mget m k := by
 by_cases h : p.1 = k <;> simp [mget, h]
def encM (kf : κ → MKey) (vf : α → V) (m : List (κ × α)) : List (MKey × V) := m.map fun p => (kf p.1, vf p.2)
omit [DecidableEq κ] in
theorem encM_nil (kf : κ → MKey) (vf : α → V) : encM kf vf ([] : List (κ × α)) = [] := rfl
theorem klk_enc {kf : κ → MKey} (hi : ∀ a b, kf a = kf b → a = b) (vf : α → V) (m : List (κ × α)) (k : κ) : klk (encM kf vf m) (kf k) = (mget m k).map vf := by
 induction m with
 | nil => rfl
 | cons p m ih =>
  show klk ((kf p.1, vf p.2) :: encM kf vf m) (kf k) = _
  rw [klk_cons, mget_cons, ih]
  by_cases h : p.1 = k
  ·simp [h]
  ·have : ¬ kf p.1 = kf k := fun e => h (hi _ _ e)
   simp [h, this]
theorem kput_enc {kf : κ → MKey} (hi : ∀ a b, kf a = kf b → a = b) (vf : α → V) (m : List (κ × α)) (k : κ) (v : α) : kput (encM kf vf m) (kf k) (vf v) = encM kf vf (mput m k v) := by
 unfold kput mput
 rw [klk_enc hi, Option.isSome_map]
 split
 ·unfold encM
  rw [List.map_map, List.map_map]
  refine List.map_congr_left fun p _ => ?_
  simp only [Function.comp]
  by_cases h : p.1 = k
  ·simp [h]
  ·have : ¬ kf p.1 = kf k := fun e => h (hi _ _ e)
   simp [h, this]
 ·simp [encM]
theorem kdel_enc {kf : κ → MKey} (hi : ∀ a b, kf a = kf b → a = b) (vf : α → V) (m : List (κ × α)) (k : κ) : kdel (encM kf vf m) (kf k) = encM kf vf (mdel m k) := by
 unfold kdel mdel encM
 rw [List.filter_map]
 congr 1
 refine List.filter_congr fun p _ => ?_
 simp only [Function.comp]
 by_cases h : p.1 = k
 ·simp [h]
 ·have : ¬ kf p.1 = kf k := fun e => h (hi _ _ e)
  simp [h, this]
def vI (k : IntKind) (n : Int) : V := .d (.lit (.int k n))
def vB (b : Bool) : V := .d (.lit (.bool b))
def vS (s : ByteArray) : V := .d (.lit (.string s))
theorem sk_inj (a b : ByteArray) (h : MKey.sk a = MKey.sk b) : a = b := by injection h
theorem Chain.msetE {P : Program} {ops : Array Oper} {o : Oper} {l : List Oper} {S : St} {Q : St → Prop} {T : TypeId} {m i x : Operand} {ti tk : TI} {kt et : TypeId} {id : Nat} {kd : TypeDesc} {kf : κ → MKey} {vf : α → V} (hi : ∀ a b, kf a = kf b → a = b) (mm : List (κ × α)) (k : κ) (v : α)
  (hw : wantedV ops S o = some true) (ho : o.op = .mapUpdate T m i x ∨ o.op = .insert T m i x) (hT : tyOf P T = some ti) (hd : ti.desc = .map kt et) (hk : tyOf P kt = some tk) (hkd : tk.desc = kd) (hm : S.ev m = .mref id) (hH : S.hp id = some (.mp kd (encM kf vf mm))) (hkey : keyV (S.ev i) = some (kf k))
  (hkk : (kf k).desc = kd) (hx : S.ev x = vf v) (hc : (vf v).closed = true)
  (h : Chain false P ops l ((S.setH id (some (.mp kd (encM kf vf (mput mm k v))))).put o.dst (.tup [])) Q) : Chain false P ops (o :: l) S Q := by
 refine Chain.mset hw ho hT hd hk hkd hm hH hkey hkk hx hc ?_
 rw [kput_enc hi]
 exact h
end
end Go.Ab
end
section
namespace Go.Ab
open Go.RowKit
abbrev bigN (N : Nat) : Prop := 9223372036854775808 ≤ N
theorem chkI_of {n : Int} (h1 : -9223372036854775808 ≤ n) (h2 : n ≤ 9223372036854775807) : chkI n = some n := if_pos ⟨h1, h2⟩
theorem idx_nat {α : Type} {xs : List α} {k : Nat} {x : α} (h : xs[k]? = some x) : idx xs (k : Int) = some x := by
 unfold idx
 rw [if_pos (by omega)]
 simpa using h
theorem idx_toNat {α : Type} {xs : List α} {i : Int} {x : α} (h0 : 0 ≤ i) (h : xs[i.toNat]? = some x) : idx xs i = some x := by
 unfold idx
 rw [if_pos h0]; exact h
theorem natI_nat {k n : Nat} (h : k ≤ n) : natI (k : Int) n = some k := by
 unfold natI
 rw [if_pos (by omega)]
 simp
@[simp] theorem letv_eq {α β : Type} (x : α) (k : α → β) : letv x k = k x := rfl
def optI : Option Nat → Int
 | some i => i
 | none => -1
end Go.Ab
end
section
namespace Go.Ab
open Go.RowKit
def dI (k : IntKind) (n : Int) : D := .lit (.int k n)
def dB (b : Bool) : D := .lit (.bool b)
def dS (s : ByteArray) : D := .lit (.string s)
@[simp] theorem comp_dI (k : IntKind) : V.d ∘ dI k = vI k := rfl
@[simp] theorem comp_dB : V.d ∘ dB = vB := rfl
@[simp] theorem comp_dS : V.d ∘ dS = vS := rfl
attribute [simp] vI vB vS dI dB dS
structure Scal {α : Type} (v : α → V) (d : α → D) : Prop where
 is : ∀ x, v x = .d (d x)
 lit : ∀ x, ∃ u, d x = .lit u
theorem sI (k : IntKind) : Scal (vI k) (dI k) := ⟨fun _ => rfl, fun _ => ⟨_, rfl⟩⟩
theorem sB : Scal vB dB := ⟨fun _ => rfl, fun _ => ⟨_, rfl⟩⟩
theorem sS : Scal vS dS := ⟨fun _ => rfl, fun _ => ⟨_, rfl⟩⟩
section
variable {α : Type} {v : α → V} {d : α → D}
theorem Scal.map (h : Scal v d) (xs : List α) : xs.map v = (xs.map d).map V.d := by
 rw [List.map_map]
 exact List.map_congr_left fun x _ => h.is x
theorem Scal.allCell (h : Scal v d) (xs : List α) : (xs.map v).all V.cell = true := by
 rw [List.all_map, List.all_eq_true]
 intro x _
 show (v x).cell = true
 rw [h.is]; rfl
theorem Scal.all' (h : Scal v d) (xs : List α) : xs.all (V.cell ∘ v) = true := by
 have := h.allCell xs
 rwa [List.all_map] at this
theorem Scal.hasL (h : Scal v d) (id : Nat) (xs : List α) : Ab.hasL id (xs.map v) = false := by
 rw [h.map]; exact hasL_d _
theorem Scal.killC (h : Scal v d) (id : Nat) : ∀ xs : List α, Ab.killC id (xs.map v) = xs.map v
 | [] => rfl
 | x :: xs => by
  show (if (v x).has id then V.hole else v x) :: Ab.killC id (xs.map v) = _
  have : (v x).has id = false := by rw [h.is]; rfl
  rw [h.killC id xs, if_neg (by simp [this])]
  rfl
theorem Scal.closedL (h : Scal v d) (xs : List α) : Ab.closedL (xs.map v) = true := by
 rw [h.map]; exact closedL_d _
theorem Scal.flatL (h : Scal v d) : ∀ xs : List α, Ab.flatL (xs.map v) = true
 | [] => rfl
 | x :: xs => by
  show ((v x).flat && Ab.flatL (xs.map v)) = true
  obtain ⟨u, hu⟩ := h.lit x
  rw [h.flatL xs, h.is, hu]
  rfl
theorem Scal.viewV (h : Scal v d) (H : Heap) (xs : List α) : Ab.viewV H (.agg (xs.map v)) = some (.agg (xs.map v)) := by
 rw [h.map]
 show (mapO (viewD H 2) ((xs.map d).map V.d)).map _ = _
 rw [mapO_viewD_d]
 rfl
theorem Scal.viewD (h : Scal v d) (H : Heap) (k : Nat) (xs : List α) : mapO (Ab.viewD H k) (xs.map v) = some (xs.map d) := by
 rw [h.map]; exact mapO_viewD_d _
theorem Scal.toDs (h : Scal v d) (xs : List α) : Ab.toDs (xs.map v) = some (xs.map d) := by
 induction xs with
 | nil => rfl
 | cons x xs ih =>
  show (match toD (v x), Ab.toDs (xs.map v) with | some x, some xs => some (x :: xs) | _, _ => none) = _
  rw [ih, h.is]
  rfl
theorem Scal.frz1 (h : Scal v d) (id : Nat) (es : List (List D)) (xs : List α) : (xs.map v).map (V.frz1 id es) = xs.map v := by
 rw [List.map_map]
 refine List.map_congr_left fun x _ => ?_
 show V.frz1 id es (v x) = v x
 rw [h.is]; rfl
theorem Scal.wk1 (h : Scal v d) (hn : ∀ x, d x ≠ .lit (.slice none 0 0)) (xs : List α) : (xs.map v).map V.wk1 = xs.map v := by
 rw [List.map_map]
 refine List.map_congr_left fun x _ => ?_
 show V.wk1 (v x) = v x
 rw [h.is]
 have := hn x
 show V.d (d x).wk = _
 unfold D.wk
 split
 ·rename_i e; exact absurd e this
 ·rfl
end
@[simp] theorem all_vI (k : IntKind) (xs : List Int) : xs.all (V.cell ∘ vI k) = true := (sI k).all' xs
@[simp] theorem all_vB (xs : List Bool) : xs.all (V.cell ∘ vB) = true := sB.all' xs
@[simp] theorem all_vS (xs : List ByteArray) : xs.all (V.cell ∘ vS) = true := sS.all' xs
@[simp] theorem hasL_vI (k : IntKind) (id : Nat) (xs : List Int) : hasL id (xs.map (vI k)) = false := (sI k).hasL id xs
@[simp] theorem hasL_vB (id : Nat) (xs : List Bool) : hasL id (xs.map vB) = false := sB.hasL id xs
@[simp] theorem hasL_vS (id : Nat) (xs : List ByteArray) : hasL id (xs.map vS) = false := sS.hasL id xs
@[simp] theorem killC_vI (k : IntKind) (id : Nat) (xs : List Int) : killC id (xs.map (vI k)) = xs.map (vI k) := (sI k).killC id xs
@[simp] theorem killC_vB (id : Nat) (xs : List Bool) : killC id (xs.map vB) = xs.map vB := sB.killC id xs
@[simp] theorem killC_vS (id : Nat) (xs : List ByteArray) : killC id (xs.map vS) = xs.map vS := sS.killC id xs
@[simp] theorem closedL_vI (k : IntKind) (xs : List Int) : closedL (xs.map (vI k)) = true := (sI k).closedL xs
@[simp] theorem closedL_vB (xs : List Bool) : closedL (xs.map vB) = true := sB.closedL xs
@[simp] theorem closedL_vS (xs : List ByteArray) : closedL (xs.map vS) = true := sS.closedL xs
@[simp] theorem flatL_vI (k : IntKind) (xs : List Int) : flatL (xs.map (vI k)) = true := (sI k).flatL xs
@[simp] theorem flatL_vB (xs : List Bool) : flatL (xs.map vB) = true := sB.flatL xs
@[simp] theorem flatL_vS (xs : List ByteArray) : flatL (xs.map vS) = true := sS.flatL xs
@[simp high] theorem viewV_vI (k : IntKind) (H : Heap) (xs : List Int) : viewV H (.agg (xs.map (vI k))) = some (.agg (xs.map (vI k))) := (sI k).viewV H xs
@[simp high] theorem viewV_vB (H : Heap) (xs : List Bool) : viewV H (.agg (xs.map vB)) = some (.agg (xs.map vB)) := sB.viewV H xs
@[simp high] theorem viewV_vS (H : Heap) (xs : List ByteArray) : viewV H (.agg (xs.map vS)) = some (.agg (xs.map vS)) := sS.viewV H xs
@[simp] theorem viewD_vI (k : IntKind) (H : Heap) (n : Nat) (xs : List Int) : mapO (viewD H n) (xs.map (vI k)) = some (xs.map (dI k)) := (sI k).viewD H n xs
@[simp] theorem viewD_vB (H : Heap) (n : Nat) (xs : List Bool) : mapO (viewD H n) (xs.map vB) = some (xs.map dB) := sB.viewD H n xs
@[simp] theorem viewD_vS (H : Heap) (n : Nat) (xs : List ByteArray) : mapO (viewD H n) (xs.map vS) = some (xs.map dS) := sS.viewD H n xs
@[simp] theorem frz1_vI (k : IntKind) (id : Nat) (es : List (List D)) : V.frz1 id es ∘ vI k = vI k := rfl
@[simp] theorem frz1_vB (id : Nat) (es : List (List D)) : V.frz1 id es ∘ vB = vB := rfl
@[simp] theorem frz1_vS (id : Nat) (es : List (List D)) : V.frz1 id es ∘ vS = vS := rfl
@[simp] theorem frzP_vI (k : IntKind) (id : Nat) (es : List D) : frzP id es ∘ vI k = vI k := rfl
@[simp] theorem frzP_vB (id : Nat) (es : List D) : frzP id es ∘ vB = vB := rfl
@[simp] theorem wk1_vI (k : IntKind) : V.wk1 ∘ vI k = vI k := rfl
@[simp] theorem wk1_vB : V.wk1 ∘ vB = vB := rfl
@[simp] theorem wk1_vS : V.wk1 ∘ vS = vS := rfl
attribute [simp] List.drop_eq_nil_of_le
end Go.Ab
end
section
namespace Go.Ab
open Go.RowKit
end Go.Ab
end
section
namespace Go.Ab
open Go.RowKit
end Go.Ab
end
section
namespace Go.Ab
open Go.RowKit Go.MapKept
def V.wf : V → V
 | .d (.lit (.func (.func f) _ _)) => .fn (.func f) []
 | v => v
theorem RV.wf {E : Env} {w : World} {c : V} {v : Value} (h : RV E w c v) : RV E w c.wf v := by
 unfold V.wf
 split
 ·rename_i f a b
  have h : RD w E.Z (.lit (.func (.func f) a b)) v := h
  obtain ⟨rfl, hp⟩ := h
  simp only [plain, Bool.and_eq_true, Array.isEmpty_iff] at hp
  obtain ⟨rfl, rfl⟩ := hp
  exact ⟨[], rfl, rfl⟩
 ·exact h
theorem FunC.argsF {P : Program} {f : FuncId} {args args' : List V} {v v' : V} (h : FunC P f args' v') (ha : args' = args.map V.wf) (hv : v' = v) : FunC P f args v := by
 subst ha; subst hv
 exact ⟨h.1, fun w Z vals hg hz hx => h.2 w Z vals hg hz (RVs.frz (fun _ _ h => RV.wf h) hx)⟩
def vof (ag : Bool) (e : List D) : V := if ag then .agg (e.map .d) else (match e with | [d] => .d d | _ => .junk)
theorem REs_RDx {κ α : Type} {E : Env} {w : World} {ag : Bool} {kf : κ → MKey} {vf : α → V} {cf : α → List D} (hvf : ∀ x, vf x = vof ag (cf x)) (hlen : ag = false → ∀ x, (cf x).length = 1) : ∀ {m : List (κ × α)} {es : List MapEntry},
  REs E w (encM kf vf m) es → es.map (·.key) = (m.map (kf ∘ Prod.fst)).map MKey.enc ∧ RDx w E.Z ag (m.map (cf ∘ Prod.snd)) (es.map (·.val))
 | [], es, h => by
  have h : es = [] := h
  subst h
  exact ⟨rfl, rfl⟩
 | (k, x) :: m, es, h => by
  obtain ⟨e, r, rfl, h1, h2, _, h4⟩ := h
  obtain ⟨g1, g2⟩ := REs_RDx hvf hlen h4
  refine ⟨by simp only [List.map_cons, h1, g1]; rfl, ?_⟩
  simp only [List.map_cons, Function.comp]
  have h2 : RV E w (vf x) e.val := h2
  rw [hvf] at h2
  unfold vof at h2
  cases ag with
  | true =>
   rw [if_pos rfl] at h2
   obtain ⟨vs, q1, _, q3⟩ := h2
   exact ⟨e.val, vs, _, rfl, RVs_d.1 q3, by rw [if_pos rfl]; exact q1, g2⟩
  | false =>
   rw [if_neg (by decide)] at h2
   have hl := hlen rfl x
   match hc : cf x, hl with
   | [d], _ =>
    rw [hc] at h2
    exact ⟨e.val, [e.val], _, rfl, ⟨_, _, rfl, h2, rfl⟩, by rw [if_neg (by decide)], g2⟩
def frzM (id : Nat) (x : D) : V → V
 | .mref i => if i = id then .d x else .mref i
 | v => v
theorem Sub.freezeM {κ α : Type} {nt : Nat} {rts : List Nat} {l : List (Nat × V)} {h : List (Nat × Option Blk)} (id : Nat) {kd : TypeDesc} {ag : Bool} {kf : κ → MKey} {vf : α → V} {cf : α → List D} (m : List (κ × α)) (hes : hlook h id = some (.mp kd (encM kf vf m)))
  (hvf : ∀ x, vf x = vof ag (cf x)) (hlen : ag = false → ∀ x, (cf x).length = 1) : Sub (mk nt rts l h) (mk nt rts (liftL (frzM id (.mpi kd ag (m.map (kf ∘ Prod.fst)) (m.map (cf ∘ Prod.snd)))) l) (liftH id (frzM id (.mpi kd ag (m.map (kf ∘ Prod.fst)) (m.map (cf ∘ Prod.snd)))) h)) :=
 Sub.toZ id (frzM id _) hes rfl fun E w hold E' hl hz hb c v hc => by
  have keep : RV E' w c v := RV.keep (fun _ _ => rfl) hz hl c v hc
  cases c with
  | mref i =>
   show RV E' w (if i = id then _ else _) v
   split
   ·rename_i hi
    subst hi
    obtain ⟨hn, hkeys, es, clock, hbk, hst, l', hp, hre⟩ := hold
    obtain ⟨es', hp', hre⟩ := REs_permL hp hre
    have hv : v = .map (some (E.loc i).b) := hc
    obtain ⟨g1, g2⟩ := REs_RDx hvf hlen hre
    refine .inr ⟨(E.loc i).b, es, clock, hv, hb hn, hbk, hst, fun k hk => ?_, es', hp', g1, RDx.keep (fun _ _ => rfl) hz _ _ _ g2⟩
    obtain ⟨p, hp, rfl⟩ := List.mem_map.1 hk
    exact hkeys (kf p.1, vf p.2) (List.mem_map.2 ⟨p, hp, rfl⟩)
   ·exact keep
  | d x => exact keep
  | ref i off len => exact keep
  | ptr i k off => exact keep
  | agg cs => exact keep
  | tup cs => exact keep
  | fn f cs => exact keep
  | dx es => exact keep
  | hole => exact keep
  | junk => trivial
attribute [simp] frzM
section
variable {κ α : Type} [DecidableEq κ]
end
def maxI (x y : Int) : Int := if x < y then y else x
def bstr (l : List Int) : ByteArray := ⟨(l.map fun n => UInt8.ofNat n.toNat).toArray⟩
theorem RDe_u8 {w : World} {Z : Nat → Prop} : ∀ {l : List Int} {flat : List Value}, RDe w Z (l.map (cI .u8)) flat → flat = l.map fun n => Value.int .u8 n
 | [], _, h => h
 | n :: l, flat, h => by
  obtain ⟨a, r, rfl, ⟨v, r', rfl, h2, h3⟩, h4⟩ := h
  have h3 : r' = [] := h3
  subst h3
  obtain ⟨rfl, _⟩ := h2
  rw [RDe_u8 h4]
  rfl
end Go.Ab
end
section
namespace Go.Ab
open Go.RowKit
end Go.Ab
end
section
namespace Go.Ab
open Go.RowKit
def cM {κ α : Type} (kd : TypeDesc) (ag : Bool) (kf : κ → MKey) (cf : α → List D) (m : List (κ × α)) : List D := [.mpi kd ag (m.map (kf ∘ Prod.fst)) (m.map (cf ∘ Prod.snd))]
attribute [simp] cM
@[simp] theorem all_cM {κ α : Type} (kd : TypeDesc) (ag : Bool) (kf : κ → MKey) (cf : α → List D) (xs : List (List (κ × α))) : xs.all ((fun e => decide (e.length = 1)) ∘ cM kd ag kf cf) = true := all_len (c := cM kd ag kf cf) (fun _ => rfl) xs
def vO {α : Type} (c : α → List D) (xs : List α) : V := .d (.sl (xs.map c))
@[simp ↓] theorem toList_beqD (x y : ByteArray) : (x.toList == y.toList) = decide (x = y) := toList_beq x y
theorem idx_someN {α : Type} {xs : List α} {n : Nat} {x : α} (h : idx xs (n : Int) = some x) : xs[n]? = some x ∧ n < xs.length ∧ ∀ h : n < xs.length, xs[n]'h = x := by
 obtain ⟨k, h1, h2, _, _⟩ := idx_some h
 simp at h1
 subst h1
 obtain ⟨h3, h4⟩ := List.getElem?_eq_some_iff.1 h2
 exact ⟨h2, h3, fun _ => h4⟩
theorem Sub.tt {nt : Nat} {rts : List Nat} {l l' : List (Nat × V)} {h h' : List (Nat × Option Blk)} (hl : ∀ p ∈ l', p.2 = tlook l p.1 := by simp) (hh : ∀ p ∈ h', p.2 = hlook h p.1 := by simp) : Sub (mk nt rts l h) (mk nt rts l' h') := .table hl hh
end Go.Ab
end
section
namespace Go.Ab
open Go.RowKit
def ocase {α β : Type} (o : Option α) (a : Option β) (b : α → Option β) : Option β := match o with
 | none => a
 | some x => b x
theorem osome {α β : Type} {o : Option α} {a : Option β} {b : α → Option β} {r : β} (h : ocase o a b = some r) : (o = none ∧ a = some r) ∨ ∃ x, o = some x ∧ b x = some r := by
 cases o with
 | none => exact .inl ⟨rfl, h⟩
 | some x => exact .inr ⟨x, rfl, h⟩
end Go.Ab
end
section
namespace Go.Ab
open Go.RowKit
end Go.Ab
end
section
namespace Go.Ab
open Go.RowKit
def Free (H : Heap) (E : Env) (D : Nat) : Prop := (∀ i, H i ≠ none → ¬ (E.loc i).own D) ∧ ¬ E.Z D
def Env.more (E : Env) (Z : Nat → Prop) : Env := ⟨E.loc, fun b => E.Z b ∨ Z b⟩
def Fx.now (W : World) (E : Env) (H : Heap) (roots : List (Nat × Loc)) (d : List Deferred) (ro : Option Nat) (h : ∀ l, ro = some l → Free H E l ∧ ∃ r, W.heap[l]? = some (.loop r)) (g : GO E H W) : Fx :=
 ⟨W, E.Z, lof E H, roots, d, ro, fun l e => by
  obtain ⟨⟨h1, h2⟩, r, h3⟩ := h l e
  exact ⟨(Array.getElem?_eq_some_iff.1 h3).1, fun ⟨i, a, b⟩ => h1 i a b, h2, r, h3⟩, g.gw, g.own⟩
theorem Mod.now {fx : Fx} {S : St} {E : Env} {a : Act} {W : World} (m : Mod fx S E a W) (roots : List (Nat × Loc)) (d : List Deferred) (ro : Option Nat) (h : ∀ l, ro = some l → Free S.hp E l ∧ ∃ r, W.heap[l]? = some (.loop r))
  (hr : ∀ r ∈ roots, r.1 ∈ S.rts ∧ E.loc r.1 = r.2) : Mod (Fx.now W E S.hp roots d ro h m.go) S E { a with defers := d } W :=
 ⟨m.nt, m.slots, rfl, m.ok, ⟨rfl, rfl, rfl, Nat.le_refl _, fun _ _ _ => rfl⟩, fun i hi _b hn => .inr ⟨i, hi, hn⟩, fun _ h => .inl h, hr⟩
end Go.Ab
end
section
namespace Go.Ab
open Go.RowKit
def rangeL {α β ρ : Type} (step : α → β → Option (Out β ρ)) : List α → β → Option (Out β ρ)
 | [], b => some (.go b)
 | x :: xs, b => match step x b with
  | some (.go b') => rangeL step xs b'
  | some (.ret r) => some (.ret r)
  | none => none
def elemV : List D → V
 | [c] => .d c
 | cs => .agg (cs.map .d)
@[simp] theorem elemV_one (c : D) : elemV [c] = .d c := rfl
@[simp] theorem elemV_two (c d : D) (cs : List D) : elemV (c :: d :: cs) = .agg ((c :: d :: cs).map .d) := rfl
attribute [simp] V.wk1 D.wk
theorem grow_alloc (w : World) (o : Obj) : Grow w (w.alloc o) := ⟨rfl, rfl, rfl, by simp, fun b hb => Below.heap_alloc _ _ _ hb⟩
section
variable {P : Program} {α β ρ : Type}
end
end Go.Ab
end
section
namespace Go.Ab
open Go.RowKit
def posN (n : Nat) : Option Unit := if 0 < n then some () else none
theorem posN_some {n : Nat} {u : Unit} (h : posN n = some u) : 0 < n := by
 unfold posN at h
 split at h
 ·assumption
 ·cases h
end Go.Ab
end
section
namespace Go.Ab
open Go.RowKit Go.Sort
theorem heap_putRow {α : Type} [Inhabited α] (enc : α → Value) (w : World) (blk off : Nat) (d : Array α) (k : Nat) :
  (putRow enc w blk off d).heap[k]? = if k = blk then (w.heap[k]?).map (onCells (putCells enc off d)) else w.heap[k]? := by
 unfold putRow mapBlock
 simp only [Array.getElem?_modify]
 by_cases h : k = blk
 ·subst h; simp
 ·rw [if_neg h, if_neg (Ne.symm h)]
theorem Post.row {w w' : World} {E : Env} {T n : Nat} {es es' : List (List D)} {c c' : Array Value} {flat' : List Value} (g : GO E (hlook [(1000, some (.arr T n es))]) w) (ok : E.ok (hlook [(1000, some (.arr T n es))]) w) (hn : (E.loc 1000).nil = false) (hc : w.heap[(E.loc 1000).b]? = some (.cells c T (0, 0)))
  (hos : w'.os = w.os) (htp : w'.tape = w.tape) (hout : w'.output = w.output) (hsz : w.heap.size ≤ w'.heap.size)
  (hb : ∀ k, k < w.heap.size → k ≠ (E.loc 1000).b → w'.heap[k]? = w.heap[k]?) (hc' : w'.heap[(E.loc 1000).b]? = some (.cells c' T (0, 0))) (hcs : c'.size = c.size)
  (hlen : es'.length = es.length) (hel : ∀ e ∈ es', e.length = n) (hR : RDe w E.Z es' flat') (ht : c'.toList.take (es'.length * n) = flat') :
  Post (fxOf w E (hlook [(1000, some (.arr T n es))]) [1000] g) E (hlook [(1000, some (.arr T n es'))]) w' := by
 have hk : Keeps E.Z w w' := fun b hz => hb b (ok.zlt b hz) (fun e => ok.apart1 1000 (by simp [hlook]) hn (e ▸ hz))
 have one : ∀ i, hlook [(1000, some (Blk.arr T n es'))] i ≠ none → i = 1000 := fun i hi => by
  by_cases h : i = 1000
  ·exact h
  ·simp [hlook, h] at hi
 obtain ⟨h1, h2, h3, h4, h5⟩ := ok.hold 1000 _ rfl
 rcases h5 with ⟨h6, _⟩ | ⟨_, c0, flat, h7, h8, h9, h10, h11, h12⟩
 ·rw [hn] at h6; cases h6
 rw [hc] at h7
 injection h7 with h7
 injection h7 with h7
 subst h7
 refine ⟨⟨?_, ?_, ?_, ?_, ?_⟩, ⟨hos, htp, hout, hsz, fun b hbl hL => hb b hbl (fun e => hL ⟨1000, by simp [hlook], .inl ⟨hn, e.symm⟩⟩)⟩, fun i hi b hni => .inr ?_, fun b hz => .inl hz, ?_⟩
 ·intro i k hi
  obtain rfl := one i (by rw [hi]; simp)
  simp only [hlook, if_true, Option.some.injEq] at hi
  subst hi
  exact ⟨h1, h2, hel, h4, .inr ⟨hn, c', flat', hc', by omega, h9, hcs.trans h10, RDe.keep hk (fun _ h => h) _ _ hR, ht⟩⟩
 ·intro i j hi hj hij
  exact absurd ((one i hi).trans (one j hj).symm) hij
 ·intro i hi b hni
  obtain rfl := one i hi
  exact ok.apart 1000 (by simp [hlook]) b hni
 ·intro b hz
  exact Nat.lt_of_lt_of_le (ok.zlt b hz) hsz
 ·intro i hi b hb
  obtain rfl := one i hi
  exact Nat.lt_of_lt_of_le (ok.xlt 1000 (by simp [hlook]) b hb) hsz
 ·obtain rfl := one i hi
  exact ⟨1000, by simp [hlook], hni⟩
 ·intro r hr
  simp only [fxOf, List.map_cons, List.map_nil, List.mem_singleton] at hr
  subst hr
  rfl
theorem Post.same {w : World} {E : Env} {b : Blk} (g : GO E (hlook [(1000, some b)]) w) (ok : E.ok (hlook [(1000, some b)]) w) : Post (fxOf w E (hlook [(1000, some b)]) [1000] g) E (hlook [(1000, some b)]) w := by
 have one : ∀ i, hlook [(1000, some b)] i ≠ none → i = 1000 := fun i hi => by
  by_cases h : i = 1000
  ·exact h
  ·simp [hlook, h] at hi
 refine ⟨ok, ⟨rfl, rfl, rfl, Nat.le_refl _, fun _ _ _ => rfl⟩, fun i hi b hni => .inr ⟨i, hi, hni⟩, fun b hz => .inl hz, ?_⟩
 intro r hr
 simp only [fxOf, List.map_cons, List.map_nil, List.mem_singleton] at hr
 subst hr
 rfl
theorem FunC.of_calls {P : Program} {f : FuncId} {args : List V} {vals : List Value} {r : Value} (hv : ∀ E w vs, RVs E w args vs → vs = vals) (hr : plain r = true)
  (h : ∀ w, GW w → Calls P f vals.toArray w fun e w' => e = .returned r ∧ Grow w w') : FunC P f args (.d (.lit r)) :=
 ⟨rfl, fun w Z vs hgw hz hvs => by
  rw [hv _ _ _ hvs]
  refine (h w hgw).mono ?_
  rintro e w' ⟨rfl, hg⟩
  exact ⟨r, default, Z, .d (.lit r), none, rfl, ⟨rfl, rfl⟩, ⟨rfl, hr⟩, (fun blk hb => by cases hb), (fun b hb => ⟨.inl hb, Nat.lt_of_lt_of_le (hz b hb) hg.size⟩), hg⟩⟩
end Go.Ab
end
section
namespace Go.Ab
open Go.RowKit Go.Sort
def CmpW {α : Type} (P : Program) (g : Nat) (c : α → List D) (p : α → α → Option Int) : Prop :=
 ∀ x y r, p x y = some r → ∀ (W : World) (Z : Nat → Prop) (vx vy : List Value), RDs W Z (c x) vx → RDs W Z (c y) vy →
  Calls P g #[.agg vx.toArray, .agg vy.toArray] W fun e w' => e = .returned (.int .i64 r) ∧ ∃ q os', w' = grow (W.drewN q) os'
def sortO {α : Type} (p : α → α → Option Int) : List α → Option (List α)
 | [] => some []
 | x :: t =>
  let g : _root_.Fin (t.length + 1) → α := fun i => (x :: t).get i
  let cf : _root_.Fin (t.length + 1) → _root_.Fin (t.length + 1) → Int := fun i j => (p (g i) (g j)).getD 0
  if (∀ i j, (p (g i) (g j)).isSome = true) ∧ (∀ i, ¬ cf i i < 0) ∧ (∀ i j l, cf i j < 0 → cf j l < 0 → cf i l < 0) ∧ (∀ i j l, ¬ cf i j < 0 → ¬ cf j l < 0 → ¬ cf i l < 0) ∧ t.length + 1 < 4611686018427387904 then
   some ((pdq (Go.Proofs.ltOf cf) (Array.ofFn (n := t.length + 1) id) 0 (t.length + 1) (Lib.bitLen (t.length + 1)) true true).toList.map g)
  else none
theorem sortO_some {α : Type} (p : α → α → Option Int) (xs : List α) (hd : ∀ x ∈ xs, ∀ y ∈ xs, (p x y).isSome = true) (hi : ∀ x ∈ xs, ¬ (p x x).getD 0 < 0) (ht : ∀ x ∈ xs, ∀ y ∈ xs, ∀ z ∈ xs, (p x y).getD 0 < 0 → (p y z).getD 0 < 0 → (p x z).getD 0 < 0)
  (hn : ∀ x ∈ xs, ∀ y ∈ xs, ∀ z ∈ xs, ¬ (p x y).getD 0 < 0 → ¬ (p y z).getD 0 < 0 → ¬ (p x z).getD 0 < 0) (hl : xs.length < 4611686018427387904) :
  ∃ r, sortO p xs = some r ∧ r.Perm xs ∧ r.Pairwise fun a b => ¬ (p b a).getD 0 < 0 := by
 match xs with
 | [] => exact ⟨[], rfl, List.Perm.refl _, List.Pairwise.nil⟩
 | x :: t =>
  have hm : ∀ i : _root_.Fin (t.length + 1), (x :: t).get i ∈ x :: t := fun i => List.get_mem _ _
  have hO : SWO (Go.Proofs.ltOf fun i j : _root_.Fin (t.length + 1) => (p ((x :: t).get i) ((x :: t).get j)).getD 0) :=
   ⟨fun i => by simpa [Go.Proofs.ltOf] using hi _ (hm i), fun i j l h1 h2 => by
    simp only [Go.Proofs.ltOf, decide_eq_true_eq] at h1 h2 ⊢
    exact ht _ (hm i) _ (hm j) _ (hm l) h1 h2, fun i j l h1 h2 => by
    simp only [Go.Proofs.ltOf, decide_eq_false_iff_not] at h1 h2 ⊢
    exact hn _ (hm i) _ (hm j) _ (hm l) h1 h2⟩
  have hs := pdq_sorts _ hO (Array.ofFn (n := t.length + 1) id) 0 (t.length + 1) (Lib.bitLen (t.length + 1)) true true (Nat.zero_le _) (by simp) (Or.inl rfl)
  refine ⟨_, if_pos ⟨fun i j => hd _ (hm i) _ (hm j), fun i => hi _ (hm i), fun i j l => ht _ (hm i) _ (hm j) _ (hm l), fun i j l => hn _ (hm i) _ (hm j) _ (hm l), hl⟩, ?_, ?_⟩
  ·obtain ⟨⟨h1, _, h3⟩, _⟩ := hs
   have e1 : ∀ A : Array (_root_.Fin (t.length + 1)), A.size = t.length + 1 → A.extract 0 (t.length + 1) = A := fun A h => by
    have := A.extract_size
    rw [h] at this
    exact this
   rw [e1 _ (by rw [h1]; simp), e1 _ (by simp)] at h3
   have := h3.map fun i => (x :: t).get i
   refine this.trans (List.Perm.of_eq ?_)
   apply List.ext_getElem
   ·simp
   ·intro i h5 h6
    simp only [List.getElem_map, Array.getElem_toList, Array.getElem_ofFn, id, List.get_eq_getElem]
  ·obtain ⟨⟨h1, _, _⟩, h2⟩ := hs
   rw [List.pairwise_map, List.pairwise_iff_getElem]
   intro i j hi' hj' hij
   have hsz := h1
   simp only [Array.size_ofFn] at hsz
   have hj2 : j < t.length + 1 := by rw [← hsz]; simpa using hj'
   have := h2 i j (Nat.zero_le _) hij hj2
   simp only [Array.length_toList] at hi' hj'
   rw [getElem!_pos _ j hj', getElem!_pos _ i hi'] at this
   simpa [Go.Proofs.ltOf] using this
theorem sortO_length {α : Type} (p : α → α → Option Int) {xs r : List α} (h : sortO p xs = some r) : r.length = xs.length := by
 match xs, h with
 | [], h =>
  simp only [sortO, Option.some.injEq] at h
  subst h; rfl
 | x :: t, h =>
  simp only [sortO] at h
  split at h
  ·rename_i hc
   obtain ⟨hd, hi, ht, hn, hl⟩ := hc
   injection h with h
   have hO : SWO (Go.Proofs.ltOf fun i j : _root_.Fin (t.length + 1) => (p ((x :: t).get i) ((x :: t).get j)).getD 0) :=
    ⟨fun i => by simpa [Go.Proofs.ltOf] using hi i, fun i j l a b => by
     simp only [Go.Proofs.ltOf, decide_eq_true_eq] at a b ⊢
     exact ht i j l a b, fun i j l a b => by
     simp only [Go.Proofs.ltOf, decide_eq_false_iff_not] at a b ⊢
     exact hn i j l a b⟩
   have hP := (pdq_sorts _ hO (Array.ofFn (n := t.length + 1) id) 0 (t.length + 1) (Lib.bitLen (t.length + 1)) true true (Nat.zero_le _) (by simp) (Or.inl rfl)).1.1
   rw [← h, List.length_map, Array.length_toList, hP]
   simp
  ·cases h
theorem flatten_get {k : Nat} : ∀ (ls : List (List Value)), (∀ e ∈ ls, e.length = k) → ∀ j, j < ls.length * k → ls.flatten[j]? = (ls[j / k]?).bind (·[j % k]?)
 | [], _, j, h => by simp at h
 | e :: ls, hk, j, h => by
  have he : e.length = k := hk e List.mem_cons_self
  have k0 : 0 < k := by
   rcases Nat.eq_zero_or_pos k with h0 | h0
   ·rw [h0] at h; simp at h
   ·exact h0
  rw [List.flatten_cons, List.getElem?_append]
  by_cases hj : j < k
  ·rw [if_pos (by omega), Nat.div_eq_of_lt hj, Nat.mod_eq_of_lt hj]; rfl
  ·rw [if_neg (by omega), he, flatten_get ls (fun e h => hk e (List.mem_cons_of_mem _ h)) (j - k) (by rw [List.length_cons, Nat.add_mul, Nat.one_mul] at h; omega)]
   have e1 : j / k = (j - k) / k + 1 := Nat.div_eq_sub_div k0 (by omega)
   have e2 : j % k = (j - k) % k := Nat.mod_eq_sub_mod (by omega)
   rw [e1, e2, List.getElem?_cons_succ]
theorem RDe_flatten {w : World} {Z : Nat → Prop} {β : Type} (c : β → List D) (enc : β → List Value) : ∀ (l : List β), (∀ x ∈ l, RDs w Z (c x) (enc x)) → RDe w Z (l.map c) (l.map enc).flatten
 | [], _ => rfl
 | x :: l, h => ⟨enc x, _, rfl, h x List.mem_cons_self, RDe_flatten c enc l fun y hy => h y (List.mem_cons_of_mem _ hy)⟩
theorem sortFunc_funM {P : Program} {ρ : Go.Shelf.Ren} (L : Go.Proofs.SlLaysF0.n6 P ρ) {T k : Nat} (aE : ∀ w, (isAgg (ρ.t 24)).run P w = .ok true w) (zE : ∀ w, (Go.sizeOf (ρ.t 24)).run P w = .ok k w) {α : Type} (c : α → List D) (hc : ∀ x, (c x).length = k) {g : Nat}
  (eg : ∀ args w, (callFunc g args).run P w = .ok (.enter g args) w) (p : α → α → Option Int) (hw : CmpW P g c p) (xs r : List α) (h : sortO p xs = some r) :
  FunM P (ρ.f 6) [.ref 1000 0 xs.length, .fn (.func g) []] [(1000, some (.arr T k (xs.map c)))] [1000] (.tup []) [(1000, .arr T k (r.map c))] := by
 intro w E vals g0 ok hv
 obtain ⟨x, _, rfl, hx, fv, _, rfl, hf, rfl⟩ := hv
 obtain ⟨fcs, rfl, hfc⟩ := hf
 obtain rfl : fcs = [] := hfc
 match xs, h with
 | [], h =>
  simp only [sortO, Option.some.injEq] at h
  subst h
  have : ∃ q cap, x = .slice q 0 cap := by
   rcases hx with ⟨_, _, _, rfl⟩ | ⟨_, _, a, rfl, _⟩
   ·exact ⟨_, _, rfl⟩
   ·exact ⟨_, _, rfl⟩
  obtain ⟨q, cap, rfl⟩ := this
  refine (Go.Proofs.AnyF.slices_SortFunc_none L q cap _ w).mono ?_
  rintro e w' ⟨rfl, rfl⟩
  exact ⟨_, E, .tup [], _, rfl, ⟨rfl, by simp [hlook]⟩, ⟨[], rfl, rfl⟩, Post.same g0 ok⟩
 | x0 :: t, h =>
  simp only [sortO] at h
  split at h
  case isFalse => cases h
  rename_i hchk
  obtain ⟨hd, hi, ht, hn', hl⟩ := hchk
  injection h with h
  rcases hx with ⟨_, _, h0, _⟩ | ⟨hn, hcap, a, rfl, ha⟩
  ·simp at h0
  ·have ha := ha (.inl rfl)
   obtain ⟨h1, h2, h3, h4, h5⟩ := ok.hold 1000 _ rfl
   rcases h5 with ⟨_, h6⟩ | ⟨_, cl, flat, h7, h8, h9, h10, h11, h12⟩
   ·simp at h6
   ·rw [Nat.zero_mul, h2] at ha
    subst ha
    have hlt : (E.loc 1000).b < w.heap.size := (Array.getElem?_eq_some_iff.1 h7).1
    have hfl : flat.length = (t.length + 1) * k := by simpa using RDe_length h11 h3
    simp only [List.length_map, List.length_cons] at h12 h8
    let enc : _root_.Fin (t.length + 1) → List Value := fun i => (flat.drop (i.val * k)).take k
    have hle : ∀ i : _root_.Fin (t.length + 1), i.val * k + k ≤ flat.length := fun i => by
     have := Nat.mul_le_mul_right k (show i.val + 1 ≤ t.length + 1 from i.isLt)
     rw [Nat.succ_mul] at this; omega
    have hk : ∀ i, (enc i).length = k := fun i => by
     have := hle i
     simp only [enc, List.length_take, List.length_drop]; omega
    have hRD : ∀ i : _root_.Fin (t.length + 1), RDs w E.Z (c ((x0 :: t).get i)) (enc i) := fun i => by
     have h13 := RDe_drop i.val h11 h3
     have h14 := RDe_take (n := k) 1 h13 (fun e he => h3 e (List.mem_of_mem_drop he))
     have e1 : ((x0 :: t).map c).drop i.val = c ((x0 :: t).get i) :: ((x0 :: t).map c).drop (i.val + 1) := by
      rw [List.drop_eq_getElem_cons (by simp), List.getElem_map, List.get_eq_getElem]
     rw [e1] at h14
     simp only [List.take_succ_cons, List.take_zero, Nat.one_mul] at h14
     obtain ⟨a, r', e2, h15, h16⟩ := h14
     obtain rfl : r' = [] := h16
     rw [List.append_nil] at e2
     show RDs w E.Z _ ((flat.drop (i.val * k)).take k)
     rw [e2]; exact h15
    have h1c : ∀ i, ∀ v ∈ enc i, v.oneCell' = true := fun i v hv => RDe_cell h11 v (List.mem_of_mem_drop (List.mem_of_mem_take hv))
    have hO : SWO (Go.Proofs.ltOf fun i j : _root_.Fin (t.length + 1) => (p ((x0 :: t).get i) ((x0 :: t).get j)).getD 0) :=
     ⟨fun i => by simpa [Go.Proofs.ltOf] using hi i, fun i j l a b => by
      simp only [Go.Proofs.ltOf, decide_eq_true_eq] at a b ⊢
      exact ht i j l a b, fun i j l a b => by
      simp only [Go.Proofs.ltOf, decide_eq_false_iff_not] at a b ⊢
      exact hn' i j l a b⟩
    have hH : HoldsK enc k w (E.loc 1000).b 0 (Array.ofFn (n := t.length + 1) id) := fun j hj => by
     have hj' : j < (t.length + 1) * k := by simpa using hj
     have hjf : j < flat.length := by omega
     have k0 : 0 < k := by
      rcases Nat.eq_zero_or_pos k with h0 | h0
      ·rw [h0] at hj'; simp at hj'
      ·exact h0
     have hdv : j / k < t.length + 1 := (Nat.div_lt_iff_lt_mul k0).2 hj'
     have hmod : j % k < k := Nat.mod_lt _ k0
     have hdm : j / k * k + j % k = j := by rw [Nat.mul_comm]; exact Nat.div_add_mod j k
     have hval : (flatK enc k (Array.ofFn (n := t.length + 1) id))[j]! = flat[j] := by
      rw [get_flatK enc k _ j (by simpa using hj')]
      rw [getElem!_pos (Array.ofFn (n := t.length + 1) id) (j / k) (by simpa using hdv)]
      simp only [Array.getElem_ofFn, id]
      rw [getElem!_pos _ _ (by rw [hk]; exact hmod)]
      simp only [enc, List.getElem_take, List.getElem_drop]
      simp only [hdm]
     have hcj : cl[j]? = some flat[j] := by
      have : (cl.toList.take ((t.length + 1) * k))[j]? = flat[j]? := by rw [h12]
      rw [List.getElem?_take_of_lt hj', List.getElem?_eq_getElem hjf] at this
      simpa using this
     rw [hval]
     refine ⟨?_, ?_⟩
     ·simp only [World.cell?, h7, Nat.zero_add]
      simp [hcj]
     ·simp only [World.frozen?, h7]
      simp
    have hheap : ∀ (n : Nat) (dk : Array (_root_.Fin (t.length + 1))) (os : Array Obj) (q : Nat), q < w.heap.size → (Go.Proofs.sortWorldK enc k w (E.loc 1000).b 0 n dk os).heap[q]? = if q = (E.loc 1000).b then (w.heap[q]?).map (onCells (putCells id 0 (flatK enc k dk))) else w.heap[q]? := fun n dk os q hq => by
     unfold Go.Proofs.sortWorldK
     rw [heap_grow_old _ _ (by unfold putRowK; simpa using hq)]
     unfold putRowK
     rw [heap_putRow]
     rfl
    have hcmp : Go.Proofs.CmpLays P g #[] enc k (fun i j : _root_.Fin (t.length + 1) => (p ((x0 :: t).get i) ((x0 :: t).get j)).getD 0) (E.loc 1000).b 0 (Array.ofFn (n := t.length + 1) id).size w := fun m os dk hdk i j => by
     obtain ⟨rr, hrr⟩ := Option.isSome_iff_exists.1 (hd i j)
     have hkeep : Keeps E.Z w (Go.Proofs.sortWorldK enc k w (E.loc 1000).b 0 m dk os) := fun b hb => by
      have hne : b ≠ (E.loc 1000).b := fun e => ok.apart1 1000 (by simp [hlook]) hn (by rw [← e]; exact hb)
      rw [hheap _ _ _ _ (ok.zlt b hb), if_neg hne]
     have := hw _ _ rr hrr (Go.Proofs.sortWorldK enc k w (E.loc 1000).b 0 m dk os) E.Z (enc i) (enc j) (RDs.keep hkeep (fun _ h => h) _ _ (hRD i)) (RDs.keep hkeep (fun _ h => h) _ _ (hRD j))
     simp only [Array.append_empty]
     rw [hrr]
     exact this
    have hS := Go.Proofs.AnyQ.slices_SortFunc_eq L k aE zE enc hk h1c _ hO g #[] (E.loc 1000).b 0 ((E.loc 1000).cap - 0) (Array.ofFn (n := t.length + 1) id) w eg hcmp hH hlt (by simpa using hl)
    have hP := (pdq_sorts _ hO (Array.ofFn (n := t.length + 1) id) 0 (t.length + 1) (Lib.bitLen (t.length + 1)) true true (Nat.zero_le _) (by simp) (Or.inl rfl)).1.1
    simp only [Array.size_ofFn] at hS hP
    refine hS.mono ?_
    rintro e w' ⟨rfl, n, os, rfl⟩
    subst h
    generalize pdq (Go.Proofs.ltOf fun i j : _root_.Fin (t.length + 1) => (p ((x0 :: t).get i) ((x0 :: t).get j)).getD 0) (Array.ofFn (n := t.length + 1) id) 0 (t.length + 1) (Lib.bitLen (t.length + 1)) true true = d' at hP ⊢
    have hcs : cl.size = (E.loc 1000).cap * k := h10
    have hflat : ∀ e ∈ d'.toList.map enc, e.length = k := by
     intro e he
     obtain ⟨i, _, rfl⟩ := List.mem_map.1 he
     exact hk i
    refine ⟨_, E, .tup [], _, rfl, ⟨rfl, ?_⟩, ⟨[], rfl, rfl⟩, Post.row (c := cl) (c' := putCells id 0 (flatK enc k d') cl) (es' := (d'.toList.map fun i => (x0 :: t).get i).map c) (g := g0) (flat' := (d'.toList.map enc).flatten) ok hn h7 rfl rfl rfl ?_ ?_ ?_ ?_ ?_ ?_ ?_ ?_⟩
    ·simp [hlook]
    ·unfold Go.Proofs.sortWorldK putRowK
     rw [size_grow, size_putRow]
     exact Nat.le_add_right _ _
    ·intro q hq hne
     rw [hheap _ _ _ _ hq, if_neg hne]
    ·rw [hheap _ _ _ _ hlt, if_pos rfl, h7]
     rfl
    ·simp [putCells]
    ·simp [hP]
    ·intro e he
     simp only [List.mem_map] at he
     obtain ⟨y, _, rfl⟩ := he
     exact hc y
    ·rw [List.map_map]
     exact RDe_flatten (fun i => c ((x0 :: t).get i)) enc d'.toList fun i _ => hRD i
    ·have hll : (d'.toList.map enc).length = t.length + 1 := by simp [hP]
     have hfl' : (d'.toList.map enc).flatten.length = (t.length + 1) * k := by
      have := RDe_length (n := k) (RDe_flatten (fun i => c ((x0 :: t).get i)) enc d'.toList fun i _ => hRD i) (by
       intro e he
       obtain ⟨y, _, rfl⟩ := List.mem_map.1 he
       exact hc _)
      simpa [hP] using this
     apply List.ext_getElem?
     intro j
     simp only [List.length_map, Array.length_toList, hP]
     by_cases hj : j < (t.length + 1) * k
     ·rw [List.getElem?_take_of_lt hj, flatten_get _ hflat j (by rw [hll]; exact hj)]
      have k0 : 0 < k := by
       rcases Nat.eq_zero_or_pos k with h0 | h0
       ·rw [h0] at hj; simp at hj
       ·exact h0
      have hdv : j / k < d'.size := by rw [hP]; exact (Nat.div_lt_iff_lt_mul k0).2 hj
      have hmod : j % k < k := Nat.mod_lt _ k0
      have hcl : j < cl.size := by
       rw [hcs]
       exact Nat.lt_of_lt_of_le hj (Nat.mul_le_mul_right k h8)
      have hjd : j < d'.size * k := by rw [hP]; exact hj
      have e1 : (putCells id 0 (flatK enc k d') cl).toList[j]? = some (flatK enc k d')[j]! := by
       simp [putCells, hcl, hjd]
      rw [e1, get_flatK enc k d' j hjd, getElem!_pos d' (j / k) hdv, getElem!_pos _ _ (by rw [hk]; exact hmod)]
      simp [hdv, hk, hmod]
     ·rw [List.getElem?_eq_none (by simp; omega), List.getElem?_eq_none (by omega)]
end Go.Ab
end
section
namespace Go.Ab
open Go.RowKit
theorem run_append_zero {P : Program} {w : World} {t ty e : TypeId} {i : TypeInfo} (ht : P.underlying t = some (.slice e)) (hi : P.info? e = some i) (A : Addr) (n c : Nat) (h : n ≤ c) :
  (Builtin.append_ #[t, t] ty #[.slice (some A) n c, .slice none 0 0]).run P w = .ok (.slice (some A) n c) w := by
 simp [Builtin.append_, run_underlying ht, sizeOf, typeInfo, hi, Builtin.lenOf, Builtin.firstCells, loadCells, h, storeCells]
theorem Chain.appOff {P : Program} {ops : Array Oper} {o : Oper} {l : List Oper} {S : St} {Q : St → Prop} {c : Call} {s x : Operand} {t e : TypeId} {tt te : TI} {id off len : Nat} {es ys : List (List D)} (hw : wantedV ops S o = some true) (ho : o.op = .call c)
  (hc : c.callee = .builtin .append) (hca : c.args = #[s, x]) (hct : c.argTypes = #[t, t]) (hT : tyOf P t = some tt) (hd : tt.desc = .slice e) (he : tyOf P e = some te)
  (hs : S.ev s = .ref id off len) (hid : id ∉ S.rts) (hH : S.hp id = some (.arr e te.size es)) (hx : srcV S.hp (S.ev x) = some ys) (hall : ∀ y ∈ ys, y.length = te.size) (hle : off + len = es.length) (hpos : 0 < te.size) (hpb : 0 < te.bytes) (hzc : te.zero.cells.size = te.size)
  (hbytes : (len + ys.length) * te.bytes ≤ Rp.reach)
  (h1 : Chain false P ops l (((S.kill id).setH id (some (.arr e te.size (es ++ ys)))).put o.dst (.ref id off (len + ys.length))) Q)
  (h2 : Chain false P ops l (((S.kill id).setH id (some (.arr e te.size (es.drop off ++ ys)))).put o.dst (.ref id 0 (len + ys.length))) Q) : Chain false P ops (o :: l) S Q := by
 intro fx a w Q' ⟨E, md⟩ hq
 unfold wpList
 rw [if_pos (wantedV_sound md hw)]
 refine .inl ?_
 have hsv := md.ev s
 rw [hs] at hsv
 have hxv := md.ev x
 obtain ⟨g1, g2, g3, g4, g5⟩ := md.ok.hold _ _ hH
 obtain ⟨hu, i0, hi0, hi1, hi2, hi3⟩ := tyOf_spec he
 have htu : P.underlying t = some (.slice e) := by rw [(tyOf_spec hT).1, hd]
 suffices H : ∃ u w' E' S' r, (Builtin.append_ #[t, t] o.type #[a.eval s, a.eval x]).run P w = .ok u w' ∧ Mod fx S' E' a w' ∧ RV E' w' r u ∧ Chain false P ops l (S'.put o.dst r) Q by
  obtain ⟨u, w', E', S', r, hrun, m', hr, hch⟩ := H
  unfold Oper.wp execOp
  simp only [ho, resolve, hc, hca, hct, invoke, builtin, Sem.run_bind, Sem.run_pure, Result.andThen_ok, List.map_toArray, List.map_cons, List.map_nil, hrun, Oper.upon]
  exact hch fx _ _ Q' ⟨E', m'.put o.dst hr⟩ hq
 have hz0 : ∀ b, some (E.loc id).b = some b → (E.loc id).nil = false → ¬ E.Z b := fun b hb hn => by
  injection hb with hb
  rw [← hb]; exact md.ok.apart1 id (by rw [hH]; simp) hn
 have anew : ∀ u w' olds news, w'.ownsRow w.heap.size e te.size u (len + ys.length) (olds ++ news) → w.grownBy w' none → RDe w E.Z (es.drop off) olds → RDe w E.Z ys news →
   ∃ E', Mod fx ((S.kill id).setH id (some (.arr e te.size (es.drop off ++ ys)))) E' a w' ∧ RV E' w' (.ref id 0 (len + ys.length)) u := by
  intro u w' olds news hown hg ho1 hn1
  have hk : Keeps E.Z w w' := Keeps.grown md.ok hg fun b hb => by cases hb
  have hall2 : ∀ y ∈ es.drop off ++ ys, y.length = te.size := fun y hy => (List.mem_append.1 hy).elim (fun h => g3 y (List.mem_of_mem_drop h)) (hall y)
  have hlen : (es.drop off ++ ys).length = len + ys.length := by rw [List.length_append, List.length_drop]; omega
  have hcat := RDe.keep hk (fun _ h => h) _ _ (RDe_append ho1 hn1)
  rcases hown.2 with ⟨rfl, h0⟩ | ⟨g, cap, cur, rfl, hgb, hgc, hnc, hcm, hcs, htake⟩
  ·have he0 : es.drop off ++ ys = [] := List.eq_nil_of_length_eq_zero (by rw [hlen]; exact h0)
   exact ⟨_, md.re hid hg (fun b hb => by cases hb) ⟨0, 0, te.size, 0, true, fun _ => False⟩ ⟨by simp [Env.at], by simp [Env.at], hall2, hpos, .inl ⟨by simp [Env.at], he0⟩⟩ (fun h => by cases h), .inl ⟨by simp [Env.at], rfl, h0, rfl⟩⟩
  ·refine ⟨_, md.re hid hg (fun b hb => by cases hb) ⟨g, 0, te.size, cap, false, fun _ => False⟩ ⟨by simp [Env.at], by simp [Env.at], hall2, hpos, .inr ⟨by simp [Env.at], cur, _, by simpa [Env.at] using hgc, by simp only [Env.at, if_true]; rw [hlen]; exact hnc, by simpa [Env.at] using hcm, by simpa [Env.at] using hcs, hcat, by rw [hlen]; exact htake⟩⟩ (fun _ => .inr hgb),
    .inr ⟨by simp [Env.at], by simp [Env.at]; exact hnc, 0, by simp [Env.at], fun _ => by simp [Env.at]⟩⟩
 rcases g5 with ⟨g6, g7⟩ | ⟨hn, cc, flat, k1, k2, k3, k4, k5, k6⟩
 ·-- nil
  subst g7
  rcases hsv with ⟨_, q1, q2, q3⟩ | ⟨q1, _⟩
  ·subst q1; subst q2
   rcases srcV_sound md.ok hxv hx te.size with ⟨r1, rfl⟩ | ⟨ax, cap, news, r1, r2, r3⟩
   ·have hrun := run_append_owned_none (P := P) (w := w) w.heap.size t o.type e i0 te.size htu hi0 (.slice none 0 0) 0 [] (World.ownsRow_nil _ _ _ _)
    obtain ⟨E', m1, m2⟩ := anew (.slice none 0 0) w [] [] (World.ownsRow_nil _ _ _ _) ⟨rfl, rfl, rfl, Nat.le_refl _, fun _ _ _ => rfl⟩ rfl rfl
    exact ⟨_, _, E', _, _, by rw [q3, r1]; exact hrun, m1, m2, h2⟩
   ·obtain ⟨u, w', hrun, n1, n2, n3⟩ := run_append_where (P := P) w w.heap.size t o.type e i0 te.zero te.size te.bytes htu hi0 hi3 hi1 hi2 hzc hpos (.slice none 0 0) 0 [] (World.ownsRow_nil _ _ _ _) ax ys.length cap news
     (RDe_length r2 hall) r3 (RDe_cell r2) hbytes hpb (Nat.le_refl _)
    obtain ⟨E', m1, m2⟩ := anew u w' [] news n1 n2 rfl r2
    exact ⟨_, _, E', _, _, by rw [q3, r1]; exact hrun, m1, m2, h2⟩
  ·rw [g6] at q1; cases q1
 rcases hsv with ⟨q1, _⟩ | ⟨_, q2, aa, q3, q4⟩
 ·rw [hn] at q1; cases q1
 have hcs : es.length * te.size ≤ cc.size := by rw [k4]; exact Nat.mul_le_mul_right _ k2
 have hfl : flat.length = es.length * te.size := RDe_length k5 g3
 have asame : ∀ (w' : World) (c' : Array Value) (news : List Value), w.grownBy w' (some (E.loc id).b) → w'.heap[(E.loc id).b]? = some (.cells c' e (0, 0)) → c'.size = cc.size → RDe w E.Z ys news → c'.toList.take ((es ++ ys).length * te.size) = flat ++ news → es.length + ys.length ≤ (E.loc id).cap →
   ∃ E', Mod fx ((S.kill id).setH id (some (.arr e te.size (es ++ ys)))) E' a w' ∧ RV E' w' (.ref id off (len + ys.length)) (.slice (some ⟨(E.loc id).b, aa, none⟩) (len + ys.length) ((E.loc id).cap - off)) := by
  intro w' c' news hg hc1 hc2 hn1 ht hcap
  have hk : Keeps E.Z w w' := Keeps.grown md.ok hg fun b hb => hz0 b (by rw [hb]) hn
  refine ⟨_, md.re hid hg (fun b hb => ⟨by rw [hH]; simp, hn, by injection hb⟩) { E.loc id with xs := fun _ => False } ⟨by simp [Env.at, g1], by simp [Env.at, g2], fun y hy => (List.mem_append.1 hy).elim (g3 y) (hall y), hpos, .inr ⟨by simp [Env.at, hn], c', flat ++ news, by simpa [Env.at] using hc1, by simp [Env.at]; exact hcap, by simpa [Env.at] using k3, by simp [Env.at]; rw [hc2]; exact k4,
   RDe.keep hk (fun _ h => h) _ _ (RDe_append k5 hn1), ht⟩⟩ (fun _ => .inl rfl), .inr ⟨by simp [Env.at, hn], by simp [Env.at]; omega, aa, by simp [Env.at], fun h => by simp only [Env.at, if_true] at h ⊢; exact q4 h⟩⟩
 rcases srcV_sound md.ok hxv hx te.size with ⟨r1, rfl⟩ | ⟨ax, cap, news, r1, r2, r3⟩
 ·-- nothing comes
  have hrun := run_append_zero (P := P) (w := w) (ty := o.type) htu hi0 ⟨(E.loc id).b, aa, none⟩ len ((E.loc id).cap - off) (by omega)
  obtain ⟨E', m1, m2⟩ := asame w cc [] ⟨rfl, rfl, rfl, Nat.le_refl _, fun _ _ _ => rfl⟩ k1 rfl rfl (by simpa using k6) (by simpa using k2)
  exact ⟨_, _, E', _, _, by rw [q3, r1]; exact hrun, m1, m2, h1⟩
 ·have hnl : news.length = ys.length * te.size := RDe_length r2 hall
  by_cases hroom : len + ys.length ≤ (E.loc id).cap - off
  ·by_cases hoc : off = 0 ∨ off < (E.loc id).cap
   ·have ha := q4 hoc
    rw [g2, g1, Nat.zero_add] at ha
    subst ha
    have hend : (off + len) * te.size + news.length ≤ cc.size := by rw [hnl, ← Nat.add_mul, k4]; exact Nat.mul_le_mul_right _ (by omega)
    have eoff : off * te.size + len * te.size = (off + len) * te.size := (Nat.add_mul _ _ _).symm
    have hrun := run_append_room_cells (P := P) (w := w) t o.type e i0 htu hi0 (E.loc id).b (off * te.size) len ((E.loc id).cap - off) ax ys.length cap news (by rw [hi1]; exact hnl) r3 (RDe_cell r2) hroom
     (fun j hj => by
      rw [hi1, eoff]
      have : (off + len) * te.size + j < cc.size := by omega
      simp [World.cell?, k1, this])
     (fun j hj => by simp [World.frozen?, k1])
    rw [hi1, eoff] at hrun
    obtain ⟨c', z1, z2⟩ := heap_setCells (E.loc id).b news ((off + len) * te.size) w cc k1 (by omega)
    have hgb := grownBy_setCells (E.loc id).b news ((off + len) * te.size) w
    rw [hle] at z2 hend
    have hl1 : (cc.toList.take (es.length * te.size)).length = es.length * te.size := by rw [k6]; exact hfl
    have hcl : cc.toList.length = cc.size := Array.length_toList
    obtain ⟨E', m1, m2⟩ := asame _ c' news hgb z1 (by
     rw [← Array.length_toList, z2]
     simp only [List.length_append, List.length_drop, hl1, hcl]; omega) r2 (by
     rw [z2, k6, List.length_append, Nat.add_mul, ← hnl, ← hfl, ← List.append_assoc, ← List.length_append]
     exact List.take_left) (by omega)
    exact ⟨_, _, E', _, _, by rw [q3, r1]; exact hrun, m1, m2, h1⟩
   ·have hy0 : ys.length = 0 := by omega
    obtain rfl : ys = [] := List.eq_nil_of_length_eq_zero hy0
    obtain rfl : news = [] := List.eq_nil_of_length_eq_zero (by rw [hnl]; simp)
    have hrun := run_append_room_cells (P := P) (w := w) t o.type e i0 htu hi0 (E.loc id).b aa len ((E.loc id).cap - off) ax 0 cap [] (by simp) r3 (fun _ h => by cases h) hroom (fun j hj => by simp at hj) (fun j hj => by simp at hj)
    obtain ⟨E', m1, m2⟩ := asame w cc [] ⟨rfl, rfl, rfl, Nat.le_refl _, fun _ _ _ => rfl⟩ k1 rfl rfl (by simpa using k6) (by simpa using k2)
    exact ⟨_, _, E', _, _, by rw [q3, r1]; exact hrun, m1, m2, h1⟩
  ·have hlen1 : (es.drop off).length = len := by rw [List.length_drop]; omega
   have holds : ∀ j u, (flat.drop (off * te.size))[j]? = some u → w.cell? ((⟨(E.loc id).b, aa, none⟩ : Addr).add j) = some u := by
    intro j u hj
    by_cases hoc : off = 0 ∨ off < (E.loc id).cap
    ·have ha := q4 hoc
     rw [g2, g1, Nat.zero_add] at ha
     subst ha
     have := rangeAt_drop (arr_range k1 ⟨_, k6⟩) (off * te.size)
     rw [Nat.zero_add] at this
     rw [add_addr]; exact this j u hj
    ·have : flat.length ≤ off * te.size := by rw [hfl]; exact Nat.mul_le_mul_right _ (by omega)
     rw [List.drop_eq_nil_of_le this] at hj
     simp at hj
   have hb2 : (len + ys.length) * te.bytes ≤ 140737488355328 := by unfold Rp.reach at hbytes; omega
   have h63 : len + ys.length ≤ maxLen := by
    have h3 : (len + ys.length) * 1 ≤ (len + ys.length) * te.bytes := Nat.mul_le_mul_left _ hpb
    unfold Rp.reach at hbytes
    unfold maxLen
    omega
   have hdl : (flat.drop (off * te.size)).length = len * te.size := by
    rw [List.length_drop, hfl, ← hle, Nat.add_mul]; omega
   obtain ⟨u, w', hrun, n1, n2⟩ := run_append_arg_grows (P := P) w t o.type e i0 te.zero te.size te.bytes htu hi0 hi3 hi1 hi2 hzc hpos ⟨(E.loc id).b, aa, none⟩ len ((E.loc id).cap - off) (flat.drop (off * te.size)) hdl holds ax ys.length cap news hnl r3 (by omega) h63 hb2
   obtain ⟨E', m1, m2⟩ := anew u w' _ news n1 n2 (RDe_drop off k5 g3) r2
   exact ⟨_, _, E', _, _, by rw [q3, r1]; exact hrun, m1, m2, h2⟩
theorem RDs.wk {w : World} {Z : Nat → Prop} : ∀ {ds : List D} {vs : List Value}, RDs w Z ds vs → RDs w Z (ds.map D.wk) vs
 | [], _, h => h
 | _ :: _, _, ⟨v, r, h1, h2, h3⟩ => ⟨v, r, h1, RD.wk h2, RDs.wk h3⟩
theorem RDe.wk {w : World} {Z : Nat → Prop} : ∀ {es : List (List D)} {vs : List Value}, RDe w Z es vs → RDe w Z (es.map fun e => e.map D.wk) vs
 | [], _, h => h
 | _ :: _, _, ⟨a, r, h1, h2, h3⟩ => ⟨a, r, h1, RDs.wk h2, RDe.wk h3⟩
theorem Sub.wkRow {S : St} (id : Nat) {T n : Nat} {es : List (List D)} (hH : S.hp id = some (.arr T n es)) : Sub S (S.setH id (some (.arr T n (es.map fun e => e.map D.wk)))) := .of fun fx a w E md => by
 obtain ⟨g1, g2, g3, g4, g5⟩ := md.ok.hold _ _ hH
 have g3' : ∀ e ∈ es.map (fun e => e.map D.wk), e.length = n := fun e he => by
  obtain ⟨e', he', rfl⟩ := List.mem_map.1 he
  rw [List.length_map]; exact g3 e' he'
 rcases g5 with ⟨g6, rfl⟩ | ⟨hn, c, flat, k1, k2, k3, k4, k5, k6⟩
 ·have : S.setH id (some (.arr T n (([] : List (List D)).map fun e => e.map D.wk))) = S := by
   unfold St.setH
   congr 1
   funext i
   by_cases hi : i = id
   ·subst hi; rw [if_pos rfl, hH]; rfl
   ·rw [if_neg hi]
  rw [this]
  exact ⟨E, md⟩
 ·exact ⟨E, md.wr hH hn ⟨rfl, rfl, rfl, Nat.le_refl _, fun _ _ _ => rfl⟩ ⟨g1, g2, g3', g4, .inr ⟨hn, c, flat, k1, by rw [List.length_map]; exact k2, k3, k4, RDe.wk k5, by rw [List.length_map]; exact k6⟩⟩⟩
section
variable {P : Program} {S : St} {σ β ρ γ : Type}
def PostIG (I : γ → σ → St) (r : ρ) (Q : Exit → St → Prop) : σ ⊕ ρ → Exit → St → Prop
 | .inl s, e, S => e = .normal ∧ ∃ g, Sub S (I g s)
 | .inr r', e, S => e ≠ .normal ∧ (r' = r → Q e S)
def PostNG (J : γ → β → St) : β → Exit → St → Prop := fun b e S => e = .normal ∧ ∃ g, Sub S (J g b)
theorem PostIG.next {I : γ → σ → St} {r : ρ} {Q : Exit → St → Prop} {s : σ} (g : γ) (h : Sub S (I g s)) : PostIG I r Q (.inl s) .normal S := ⟨rfl, g, h⟩
theorem PostIG.out {I : γ → σ → St} {r r' : ρ} {Q : Exit → St → Prop} {e : Exit} (he : e ≠ .normal) (h : r' = r → Q e S) : PostIG I r Q (.inr r') e S := ⟨he, h⟩
theorem PostNG.next {J : γ → β → St} {b : β} (g : γ) (h : Sub S (J g b)) : PostNG J b .normal S := ⟨rfl, g, h⟩
theorem AW.iterG {c : Code} {step : σ → Option (σ ⊕ ρ)} {n : Nat} {s0 : σ} {r : ρ} {Q : Exit → St → Prop} (I : γ → σ → St) (h : iterN step n s0 = some r) (g0 : γ) (hs : Sub S (I g0 s0))
  (round : ∀ g s x, step s = some x → AW P c (I g s) (PostIG I r Q x)) : AW P (.loop c) S Q := by
 refine AW.loop (fun m S0 => ∃ g s, iterN step m s = some r ∧ S0 = I g s) hs ⟨g0, s0, h, rfl⟩ ?_
 rintro m S0 ⟨g, s, hm, rfl⟩
 cases m with
 | zero => cases hm
 | succ m =>
  rw [iterN_succ] at hm
  cases hx : step s with
  | none => rw [hx] at hm; cases hm
  | some x =>
   rw [hx] at hm
   refine (round g s x hx).mono fun e S' hp => ?_
   cases x with
   | inl s' =>
    obtain ⟨rfl, g', hp⟩ := hp
    exact ⟨m, _, Nat.lt_succ_self _, hp, g', s', hm, rfl⟩
   | inr r' =>
    injection hm with hm
    obtain ⟨he, hp⟩ := hp
    have hp := hp hm
    cases e with
    | normal => exact absurd rfl he
    | exit id => exact hp
    | goto l => exact hp
    | ret => exact hp
    | panic ch => exact hp
    | outgrown => exact hp
theorem AW.lastNG {x : Code} {d : Option β} {k : β → Option ρ} {r : ρ} {Q : Exit → St → Prop} (J : γ → β → St) (h : d.bind k = some r) (h1 : ∀ o, d = some o → AW P x S (PostNG J o))
  (h2 : ∀ g b, k b = some r → Q .normal (J g b)) : AW P x S Q := by
 obtain ⟨b, hd, hk⟩ := bsome h
 refine (h1 b hd).mono2 fun e S' hp => ?_
 obtain ⟨rfl, g, hp⟩ := hp
 exact ⟨_, hp, h2 g b hk⟩
end
end Go.Ab
end
section
namespace Go.Ab
open Go.RowKit
section
variable {P : Program} {ops : Array Oper} {md : Region.Mode} {C : World → Prop}
end
theorem FunM.argsF {P : Program} {f : FuncId} {args args' : List V} {h0 : List (Nat × Option Blk)} {rts : List Nat} {v : V} {h1 : List (Nat × Blk)} (h : FunM P f args' h0 rts v h1) (ha : args' = args.map V.wf) : FunM P f args h0 rts v h1 :=
 fun w E vals g ok hx => h w E vals g ok (by subst ha; exact RVs.frz (fun _ _ h => RV.wf h) hx)
end Go.Ab
end
section
namespace Go.Ab
open Go.RowKit Go.Sort
def cE (b : Bool) : List D := [.er b]
attribute [simp] cE
end Go.Ab
end
section
namespace Go.Ab
open Go.RowKit Go.MapKept
@[simp] theorem encM_length {κ α : Type} (kf : κ → MKey) (vf : α → V) (m : List (κ × α)) : (encM kf vf m).length = m.length := by simp [encM]
@[simp] theorem encM_fst {κ α : Type} (kf : κ → MKey) (vf : α → V) (m : List (κ × α)) : (encM kf vf m).map (·.1) = m.map (kf ∘ Prod.fst) := by simp [encM]
@[simp] theorem entsD_vI {κ : Type} (k : IntKind) (kf : κ → MKey) : ∀ (m : List (κ × Int)), entsD (encM kf (vI k) m) = some (m.map (cI k ∘ Prod.snd))
 | [] => rfl
 | (a, n) :: m => by
  show (entsD (encM kf (vI k) m)).map _ = _
  rw [entsD_vI k kf m]; rfl
@[simp] theorem entsD_vB {κ : Type} (kf : κ → MKey) : ∀ (m : List (κ × Bool)), entsD (encM kf vB m) = some (m.map (cB ∘ Prod.snd))
 | [] => rfl
 | (a, n) :: m => by
  show (entsD (encM kf vB m)).map _ = _
  rw [entsD_vB kf m]; rfl
@[simp] theorem entsD_vS {κ : Type} (kf : κ → MKey) : ∀ (m : List (κ × ByteArray)), entsD (encM kf vS m) = some (m.map (cS ∘ Prod.snd))
 | [] => rfl
 | (a, n) :: m => by
  show (entsD (encM kf vS m)).map _ = _
  rw [entsD_vS kf m]; rfl
theorem menc_inj : ∀ {a b : MKey}, a.enc = b.enc → a = b
 | .ik _, .ik _, h => by injection h with _ h; rw [h]
 | .sk _, .sk _, h => by injection h with h; rw [h]
 | .bk _, .bk _, h => by injection h with h; rw [h]
theorem REs_keep {E : Env} {w : World} {k : MKey} : ∀ {l : List (MKey × V)} {es : List MapEntry}, REs E w l es → (∀ x ∈ es, x.key ≠ k.enc) → kdel l k = l
 | [], _, _, _ => rfl
 | (q, v) :: l, es, ⟨e, r, h, h1, _, _, h2⟩, hn => by
  subst h
  have hq : ¬ q = k := fun e2 => hn e (.head _) (by rw [h1, e2])
  unfold kdel
  rw [List.filter_cons_of_pos (by simpa using hq)]
  congr 1
  exact REs_keep h2 fun x hx => hn x (.tail _ hx)
theorem REs_erase {E : Env} {w : World} {k : MKey} : ∀ {l : List (MKey × V)} {es : List MapEntry} {j : Nat} {e : MapEntry}, REs E w l es → (es.map (·.key)).Nodup → es[j]? = some e → e.key = k.enc → REs E w (kdel l k) (es.eraseIdx j)
 | [], es, j, e, h, _, hj, _ => by
  have h : es = [] := h
  subst h
  simp at hj
 | (q, v) :: l, es, j, e, ⟨e0, r, h, h1, h2, h3, h4⟩, hnd, hj, hk => by
  subst h
  rw [List.map_cons, List.nodup_cons] at hnd
  cases j with
  | zero =>
   simp only [List.getElem?_cons_zero, Option.some.injEq] at hj
   subst hj
   have hq : q = k := menc_inj (h1.symm.trans hk)
   have hn : ∀ x ∈ r, x.key ≠ k.enc := fun x hx e2 => hnd.1 (List.mem_map.2 ⟨x, hx, e2.trans hk.symm⟩)
   have := REs_keep h4 hn
   unfold kdel at this ⊢
   rw [List.filter_cons_of_neg (by simpa using hq), this]
   exact h4
  | succ j =>
   simp only [List.getElem?_cons_succ] at hj
   have hq : ¬ q = k := fun e2 => hnd.1 (List.mem_map.2 ⟨e, List.mem_of_getElem? hj, by rw [hk, h1, e2]⟩)
   have := REs_erase h4 hnd.2 hj hk
   unfold kdel at this ⊢
   rw [List.filter_cons_of_pos (by simpa using hq), List.eraseIdx_cons_succ]
   exact ⟨e0, _, rfl, h1, h2, h3, this⟩
theorem Chain.mdel {P : Program} {ops : Array Oper} {o : Oper} {l : List Oper} {S : St} {Q : St → Prop} {c : Call} {T T2 : TypeId} {m i : Operand} {id : Nat} {kd : TypeDesc} {es : List (MKey × V)} {k : MKey} {kt et : TypeId} {ti tk : TI} (hw : wantedV ops S o = some true) (ho : o.op = .call c)
  (hcal : c.callee = .builtin .delete) (ha : c.args = #[m, i]) (hty : c.argTypes = #[T, T2])
  (hT : tyOf P T = some ti) (hd : ti.desc = .map kt et) (hkt : tyOf P kt = some tk) (hkd : tk.desc = kd) (hm : S.ev m = .mref id) (hH : S.hp id = some (.mp kd es)) (hk : keyV (S.ev i) = some k) (hkk : k.desc = kd)
  (h : Chain false P ops l ((S.setH id (some (.mp kd (kdel es k)))).put o.dst (.tup [])) Q) : Chain false P ops (o :: l) S Q := by
 intro fx a w Q' ⟨E, md⟩ hq
 unfold wpList
 rw [if_pos (wantedV_sound md hw)]
 refine .inl ?_
 have hmv := md.ev m
 rw [hm] at hmv
 have hmv : a.eval m = .map (some (E.loc id).b) := hmv
 have hiv := keyV_sound (md.ev i) hk
 obtain ⟨hn, hkeys, mes, clock, hb, hst, es', hp, hre⟩ := md.ok.hold _ _ hH
 have hpk := kdel_perm hp k
 have hu : P.underlying T = some (.map kt et) := by rw [(tyOf_spec hT).1, hd]
 have huk : P.underlying kt = some k.desc := by rw [(tyOf_spec hkt).1, hkd, hkk]
 have hkeys' : ∀ p ∈ kdel es k, p.1.desc = kd := fun p hp => hkeys p ((List.mem_filter.1 hp).1)
 have fin : ∀ mes' clock', (Builtin.delete_ #[T, T2] o.type #[a.eval m, a.eval i]).run P w = .ok (.tuple #[]) { w with heap := w.heap.setIfInBounds (E.loc id).b (.map mes' clock') } → Stamped mes' clock' → REs E w (kdel es' k) mes'.toList → o.wp P a w (wpList P ops Q' l) Q' := by
  intro mes' clock' hrun hst' hre'
  have hg := grownBy_set w (E.loc id).b (.map mes' clock')
  have hkp : Keeps E.Z w { w with heap := w.heap.setIfInBounds (E.loc id).b (.map mes' clock') } := Keeps.grown md.ok hg fun b hb => by injection hb with hb; rw [← hb]; exact md.ok.apart1 id (by rw [hH]; simp) hn
  have m' := md.wr hH hn hg (blk := .mp kd (kdel es k)) ⟨hn, hkeys', mes', clock', (heap_set hb).1, hst', _, hpk, REs.keep hkp (fun _ h => h) rfl _ _ hre'⟩
  unfold Oper.wp execOp
  simp only [ho, resolve, hcal, ha, hty, invoke, builtin, Sem.run_bind, Sem.run_pure, Result.andThen_ok, List.map_toArray, List.map_cons, List.map_nil, hrun, Oper.upon]
  exact h fx _ _ Q' ⟨E, m'.put o.dst ⟨[], rfl, rfl⟩⟩ hq
 rcases REs_find (k := k) hkk 0 hre (fun p hq => hkeys p (hp.mem_iff.1 hq)) with ⟨g1, g2, g3⟩ | ⟨j, e, u, g1, g2, g3, g4, g5, g6, q, g7, g8⟩
 ·refine fin mes clock ?_ hst ?_
  ·rw [← hkk] at g1
   rw [hmv, hiv]
   simp [Builtin.delete_, run_underlying hu, MapKept.run_getObj_map hb, MapKept.run_checkKey huk k.isKey, run_findKey huk g1, MapKept.run_setObj_map _ hb]
  ·rw [REs_keep hre g3]; exact hre
 ·rw [Nat.zero_add] at g1
  have hej : mes[j]? = some e := by simpa using g2
  have hjl : j < mes.size := (Array.getElem?_eq_some_iff.1 hej).1
  refine fin (mes.eraseIdxIfInBounds j) clock ?_ (stamped_erase hst j) ?_
  ·rw [← hkk] at g1
   rw [hmv, hiv]
   simp [Builtin.delete_, run_underlying hu, MapKept.run_getObj_map hb, MapKept.run_checkKey huk k.isKey, run_findKey huk g1, MapKept.run_setObj_map _ hb]
  ·have he : (mes.eraseIdxIfInBounds j).toList = mes.toList.eraseIdx j := by
    unfold Array.eraseIdxIfInBounds
    rw [dif_pos hjl]
    simp
   rw [he]
   exact REs_erase hre hst.2.2 g2 g3
theorem Chain.mdelE {κ α : Type} [DecidableEq κ] {P : Program} {ops : Array Oper} {o : Oper} {l : List Oper} {S : St} {Q : St → Prop} {c : Call} {T T2 : TypeId} {m i : Operand} {ti tk : TI} {kt et : TypeId} {id : Nat} {kd : TypeDesc} {kf : κ → MKey} {vf : α → V} (hi : ∀ a b, kf a = kf b → a = b) (mm : List (κ × α)) (k : κ)
  (hw : wantedV ops S o = some true) (ho : o.op = .call c) (hcal : c.callee = .builtin .delete) (ha : c.args = #[m, i]) (hty : c.argTypes = #[T, T2]) (hT : tyOf P T = some ti) (hd : ti.desc = .map kt et) (hk : tyOf P kt = some tk) (hkd : tk.desc = kd) (hm : S.ev m = .mref id)
  (hH : S.hp id = some (.mp kd (encM kf vf mm))) (hkey : keyV (S.ev i) = some (kf k)) (hkk : (kf k).desc = kd)
  (h : Chain false P ops l ((S.setH id (some (.mp kd (encM kf vf (Go.Ab.mdel mm k))))).put o.dst (.tup [])) Q) : Chain false P ops (o :: l) S Q := by
 refine Chain.mdel hw ho hcal ha hty hT hd hk hkd hm hH hkey hkk ?_
 rw [kdel_enc hi]
 exact h
end Go.Ab
end
section
namespace Go.Ab
open Go.RowKit Go.MapKept
end Go.Ab
end
section
namespace Go.Ab
open Go.RowKit
def isNilD : D → Bool
 | .lit (.slice none 0 0) => true
 | _ => false
def nz : List (Option (TypeId × Nat)) → List D → Option (List D)
 | [], [] => some []
 | none :: sh, d :: ds => (nz sh ds).map (d :: ·)
 | some (_, n) :: sh, d :: ds => if isNilD d = true ∧ 0 < n then (nz sh ds).map (.sl [] :: ·) else none
 | _, _ => none
end Go.Ab
end
