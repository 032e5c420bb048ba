/- Functional programs: contracts of functions that change what they are lent. Functional programs: maps as lists of pairs. Plain lemmas on functional programs: loops over lists and ranges. Functional programs: arrays of many cells as flat lists. Functional programs: contracts of functions that hand back a row of their own. Functional programs: maps as data, strings, functions without captured variables. Functional programs: cells of maps, rooms, bytes of strings. The abstract machine: ranges over slices.Backward's function. The abstract machine: the rule of a range over slices.Backward's function. Contracts of the library as contracts of functional programs. The abstract machine: nil slices among a row's elements seen as empty ones. The abstract machine: rows within own rows. The abstract machine: the rule of a range over slices.Chunk's function. -/
import Derived.Test.YtimkkjiplioohaaGreatDoorA3
import Derived.RangeFuncSeq
import Derived.RangeFuncBox
import Derived.RangeFuncLeaves
import Derived.Shelf.Abstract
import Derived.WalkKit
import Derived.OwnWalkIn
import Derived.TacticsInMore
import Derived.LoopNIn
import Derived.LoopIn
section
namespace Go.Ab
open Go.RowKit
def FunM (P : Program) (f : FuncId) (args : List V) (h0 : List (Nat × Option Blk)) (rts : List Nat) (v : V) (h1 : List (Nat × Blk)) : Prop :=
 Ctr P f args (hlook h0) rts (fun r H => r = v ∧ ∀ q ∈ h1, H q.1 = some q.2)
def FinF (P : Program) (fn : Func) (v : V) (h1 : List (Nat × Blk)) (e : Exit) (S : St) : Prop := (e = .normal ∨ e = .ret) ∧ outV (tyOf P) fn.results.toList S = some v ∧ ∀ q ∈ h1, S.hp q.1 = some q.2
theorem FinF.ret {P : Program} {fn : Func} {v : V} {h1 : List (Nat × Blk)} {S : St} (h2 : outV (tyOf P) fn.results.toList S = some v) (h3 : ∀ q ∈ h1, S.hp q.1 = some q.2) : FinF P fn v h1 .ret S := ⟨.inr rfl, h2, h3⟩
theorem FinF.normal {P : Program} {fn : Func} {v : V} {h1 : List (Nat × Blk)} {S : St} (h2 : outV (tyOf P) fn.results.toList S = some v) (h3 : ∀ q ∈ h1, S.hp q.1 = some q.2) : FinF P fn v h1 .normal S := ⟨.inl rfl, h2, h3⟩
theorem FunM.enter {P : Program} {f : FuncId} {fn : Func} {c : Code} {args : List V} {h0 : List (Nat × Option Blk)} {rts : List Nat} {v : V} {h1 : List (Nat × Blk)} (nt : Nat) (l : List (Nat × V)) (hf : P.funcs[f]? = some fn) (hb : fn.body = some c) (hle : args.length ≤ fn.ntmps) (hn : fn.ntmps = nt) (hl : enterL args 0 = l)
  (h : AW P c (mk nt rts l h0) (FinF P fn v h1)) : FunM P f args h0 rts v h1 := by
 subst hn; subst hl
 exact Ctr.of hf hb hle (h.mono fun e S ⟨h1, h2, h3⟩ => ⟨h1, v, h2, rfl, h3⟩)
theorem Chain.callFG {P : Program} {ops : Array Oper} {o : Oper} {l : List Oper} {S : St} {Q' : St → Prop} {f : FuncId} {full args : List V} {rts : List Nat} {h0 : List (Nat × Option Blk)} {v : V} {h1 : List (Nat × Blk)} (hF : FunM P f args h0 rts v h1)
  (lent : List (Nat × Nat)) (rt : List Nat) (pl : List (Nat × Nat)) (bl : List (Nat × Blk)) (r' : V)
  (hw : wantedV ops S o = some true) (hto : CallsTo P S o f full)
  (hargs : rnmL lent full = some args) (hks : (lent.map (·.1)).Nodup) (hcs : (lent.map (·.2)).Nodup)
  (hlent : ∀ p ∈ lent, ∃ b b', S.hp p.1 = some b ∧ b.rnm lent = some b' ∧ hlook h0 p.2 = some b') (honly : ∀ q ∈ h0, ∃ p ∈ lent, p.2 = q.1)
  (hp1 : (pl.map (·.1)).Nodup) (hp2 : (pl.map (·.2)).Nodup) (hhere : ∀ p ∈ pl, ∃ b, (p.1, b) ∈ h1)
  (hroot : ∀ p ∈ pl, (rt.contains p.2 = true ∧ (p.2, p.1) ∈ lent ∧ p.1 ∈ rts) ∨ (rt.contains p.2 = false ∧ p.2 ∉ S.rts))
  (hblk : ∀ q ∈ bl, ∃ c b, (c, q.1) ∈ pl ∧ (c, b) ∈ h1 ∧ b.rnm pl = some q.2) (hres : v.rnm pl = some r')
  (hrest : Chain false P ops l (S.after lent rt pl bl o.dst r') Q') : Chain false P ops (o :: l) S Q' := by
 refine Chain.callMG lent rt hw hto hargs hks hcs hlent honly hF fun r H1 ⟨hr, hh⟩ => ⟨pl, bl, r', ⟨hp1, hp2, fun p hp => ?_, hroot, fun q hq => ?_, by rw [hr]; exact hres⟩, hrest⟩
 ·obtain ⟨b, hb⟩ := hhere p hp
  rw [hh _ hb]; simp
 ·obtain ⟨c, b, h2, h3, h4⟩ := hblk q hq
  exact ⟨c, b, h2, hh _ h3, h4⟩
theorem Chain.callF {P : Program} {ops : Array Oper} {o : Oper} {l : List Oper} {S : St} {Q' : St → Prop} {c : Call} {f : FuncId} {caps args : List V} {rts : List Nat} {h0 : List (Nat × Option Blk)} {v : V} {h1 : List (Nat × Blk)} (hF : FunM P f args h0 rts v h1)
  (lent : List (Nat × Nat)) (rt : List Nat) (pl : List (Nat × Nat)) (bl : List (Nat × Blk)) (r' : V)
  (hw : wantedV ops S o = some true) (ho : o.op = .call c)
  (hcal : calleeV S c = some (f, caps)) (hargs : rnmL lent (c.args.toList.map S.ev ++ caps) = some args) (hks : (lent.map (·.1)).Nodup) (hcs : (lent.map (·.2)).Nodup)
  (hlent : ∀ p ∈ lent, ∃ b b', S.hp p.1 = some b ∧ b.rnm lent = some b' ∧ hlook h0 p.2 = some b') (honly : ∀ q ∈ h0, ∃ p ∈ lent, p.2 = q.1)
  (hent : Rp.Enters P f)
  (hp1 : (pl.map (·.1)).Nodup) (hp2 : (pl.map (·.2)).Nodup) (hhere : ∀ p ∈ pl, ∃ b, (p.1, b) ∈ h1)
  (hroot : ∀ p ∈ pl, (rt.contains p.2 = true ∧ (p.2, p.1) ∈ lent ∧ p.1 ∈ rts) ∨ (rt.contains p.2 = false ∧ p.2 ∉ S.rts))
  (hblk : ∀ q ∈ bl, ∃ c b, (c, q.1) ∈ pl ∧ (c, b) ∈ h1 ∧ b.rnm pl = some q.2) (hres : v.rnm pl = some r')
  (hrest : Chain false P ops l (S.after lent rt pl bl o.dst r') Q') : Chain false P ops (o :: l) S Q' :=
 Chain.callFG hF lent rt pl bl r' hw (.value hcal hent ho) hargs hks hcs hlent honly hp1 hp2 hhere hroot hblk hres hrest
end Go.Ab
end
section
namespace Go.Ab
open Go.RowKit
def V.lift (g : V → V) : V → V
 | .agg cs => if (cs.map g).all V.cell = true then .agg (cs.map g) else .junk
 | .tup cs => .tup (cs.map g)
 | .fn f cs => .fn f (cs.map g)
 | v => g v
def Blk.lift (g : V → V) : Blk → Option Blk
 | .box cs => if (cs.map g).all V.cell = true then some (.box (cs.map g)) else none
 | b => some b
def liftL (g : V → V) : List (Nat × V) → List (Nat × V)
 | [] => []
 | (k, v) :: r => (k, v.lift g) :: liftL g r
def liftH (id : Nat) (g : V → V) : List (Nat × Option Blk) → List (Nat × Option Blk)
 | [] => []
 | (k, b) :: r => (k, if k = id then none else b.bind (Blk.lift g)) :: liftH id g r
theorem look_liftL {g : V → V} (hj : g .junk = .junk) : ∀ (l : List (Nat × V)) (i : Nat), tlook (liftL g l) i = (tlook l i).lift g
 | [], _ => hj.symm
 | (k, v) :: r, i => by
  show (if i = k then v.lift g else tlook (liftL g r) i) = _
  rw [look_liftL hj r i]
  show _ = (if i = k then v else tlook r i).lift g
  split <;> rfl
theorem hlook_liftH (id : Nat) (g : V → V) : ∀ (l : List (Nat × Option Blk)) (i : Nat), hlook (liftH id g l) i = if i = id then none else (hlook l i).bind (Blk.lift g)
 | [], i => by simp [liftH, hlook]
 | (k, b) :: r, i => by
  show (if i = k then (if k = id then none else b.bind (Blk.lift g)) else hlook (liftH id g r) i) = _
  rw [hlook_liftH id g r i]
  show _ = if i = id then none else (if i = k then b else hlook r i).bind (Blk.lift g)
  by_cases h : i = k
  ·subst h; simp
  ·simp [h]
theorem RV.lift {E E' : Env} {w : World} {g : V → V} (hg : ∀ c v, RV E w c v → RV E' w (g c) v) : ∀ (c : V) (v : Value), RV E w c v → RV E' w (c.lift g) v := by
 intro c v h
 cases c with
 | agg cs =>
  show RV E' w (if _ then _ else _) v
  split
  ·rename_i hall
   obtain ⟨vs, h1, h2, h3⟩ := h
   exact ⟨vs, h1, List.all_eq_true.1 hall, RVs.frz hg h3⟩
  ·trivial
 | tup cs =>
  obtain ⟨vs, h1, h3⟩ := h
  exact ⟨vs, h1, RVs.frz hg h3⟩
 | fn f cs =>
  obtain ⟨vs, h1, h3⟩ := h
  exact ⟨vs, h1, RVs.frz hg h3⟩
 | ref i off len => exact hg _ _ h
 | d x => exact hg _ _ h
 | ptr id i off => exact hg _ _ h
 | mref id => exact hg _ _ h
 | dx es => exact hg _ _ h
 | hole => exact hg _ _ h
 | junk => exact hg _ _ h
theorem Sub.toZ {nt : Nat} {rts : List Nat} {l : List (Nat × V)} {h : List (Nat × Option Blk)} (id : Nat) (g : V → V) {blk : Blk} (hes : hlook h id = some blk) (hj : g .junk = .junk)
  (hg : ∀ (E : Env) (w : World), Hold E w id blk → ∀ E' : Env, E'.loc = E.loc → (∀ b, E.Z b → E'.Z b) → ((E.loc id).nil = false → E'.Z (E.loc id).b) → ∀ c v, RV E w c v → RV E' w (g c) v) : Sub (mk nt rts l h) (mk nt rts (liftL g l) (liftH id g h)) := .of fun fx a w E m => by
 have hold := m.ok.hold id _ hes
 have hz : ∀ b, E.Z b → (E.Z b ∨ ((E.loc id).nil = false ∧ b = (E.loc id).b)) := fun _ h => .inl h
 have hne : (mk nt rts l h).hp id ≠ none := by rw [show (mk nt rts l h).hp id = _ from hes]; simp
 have fr1 : ∀ c v, RV E w c v → RV { E with Z := fun b => E.Z b ∨ ((E.loc id).nil = false ∧ b = (E.loc id).b) } w (g c) v := fun c v hc => hg E w hold { E with Z := fun b => E.Z b ∨ ((E.loc id).nil = false ∧ b = (E.loc id).b) } rfl hz (fun hn => .inr ⟨hn, rfl⟩) c v hc
 have get : ∀ i, hlook (liftH id g h) i ≠ none → i ≠ id ∧ hlook h i ≠ none := fun i hi => by
  rw [hlook_liftH] at hi
  by_cases e : i = id
  ·rw [if_pos e] at hi; exact absurd rfl hi
  ·rw [if_neg e] at hi
   refine ⟨e, fun e2 => ?_⟩
   rw [e2] at hi; exact hi rfl
 refine ⟨{ E with Z := fun b => E.Z b ∨ ((E.loc id).nil = false ∧ b = (E.loc id).b) }, m.nt, fun t => ?_, m.dfr, ⟨fun i b hi => ?_, fun i j hi hj => m.ok.inj i j (get i hi).2 (get j hj).2, fun i hi b hn hb => ?_, fun b hb => ?_, fun i hi => m.ok.xlt i (get i hi).2⟩, m.frame, fun i hi => m.mine i (get i hi).2, fun b hb => ?_, m.roots⟩
 ·have := RV.lift fr1 _ _ (m.slots t)
  show RV _ w (tlook (liftL g l) t) _
  rw [look_liftL hj]
  exact this
 ·have hi' : hlook (liftH id g h) i = some b := hi
  rw [hlook_liftH] at hi'
  by_cases e : i = id
  ·rw [if_pos e] at hi'; cases hi'
  ·rw [if_neg e] at hi'
   cases hb : hlook h i with
   | none => rw [hb] at hi'; cases hi'
   | some b0 =>
    rw [hb] at hi'
    have hh := m.ok.hold i b0 hb
    cases b0 with
    | box cs =>
     have hi' : (if (cs.map g).all V.cell = true then some (Blk.box (cs.map g)) else none) = some b := hi'
     split at hi'
     ·rename_i hall
      injection hi' with hi'
      subst hi'
      obtain ⟨hn, h1, vs, h2, h3, h4, h5⟩ := hh
      exact ⟨hn, List.all_eq_true.1 hall, vs, RVs.frz fr1 h2, h3, h4, h5⟩
     ·cases hi'
    | arr T n es =>
     injection hi' with hi'
     subst hi'
     exact hh.keep (E' := { E with Z := fun b => E.Z b ∨ ((E.loc id).nil = false ∧ b = (E.loc id).b) }) (fun _ _ => rfl) hz rfl (fun _ _ => rfl) (Nat.le_refl _)
    | mp kd l =>
     injection hi' with hi'
     subst hi'
     exact hh.keep (E' := { E with Z := fun b => E.Z b ∨ ((E.loc id).nil = false ∧ b = (E.loc id).b) }) (fun _ _ => rfl) hz rfl (fun _ _ => rfl) (Nat.le_refl _)
    | nest T n sh es fo =>
     injection hi' with hi'
     subst hi'
     exact hh.keep (E' := { E with Z := fun b => E.Z b ∨ ((E.loc id).nil = false ∧ b = (E.loc id).b) }) (fun _ _ => rfl) hz rfl (fun _ _ => rfl) (Nat.le_refl _)
    | hid p =>
     injection hi' with hi'
     subst hi'
     exact hh.keep (E' := { E with Z := fun b => E.Z b ∨ ((E.loc id).nil = false ∧ b = (E.loc id).b) }) (fun _ _ => rfl) hz rfl (fun _ _ => rfl) (Nat.le_refl _)
 ·obtain ⟨hne2, hi2⟩ := get i hi
  rcases hb with hb | ⟨hn2, hb⟩
  ·exact m.ok.apart i hi2 b hn hb
  ·exact m.ok.inj i id hi2 hne hne2 b hn (.inl ⟨hn2, hb.symm⟩)
 ·rcases hb with hb | ⟨hn2, hb⟩
  ·exact m.ok.zlt b hb
  ·rw [hb]; exact hold.block_lt hn2
 ·rcases hb with hb | ⟨hn2, hb⟩
  ·exact m.z b hb
  ·rw [hb]
   rcases m.mine1 id hne hn2 with h | h
   ·exact .inr (.inl h)
   ·exact .inr (.inr h)
def frzP (id : Nat) (ds : List D) : V → V
 | .ptr i k off => if i = id then (if k = 0 then .d (.pim (ds.drop off)) else .junk) else .ptr i k off
 | v => v
theorem Sub.freezeBox {nt : Nat} {rts : List Nat} {l : List (Nat × V)} {h : List (Nat × Option Blk)} (id : Nat) (ds : List D) (hes : hlook h id = some (.box (ds.map .d))) : Sub (mk nt rts l h) (mk nt rts (liftL (frzP id ds) l) (liftH id (frzP id ds) h)) :=
 Sub.toZ id (frzP id ds) hes rfl fun E w hold E' hl hz hb c v hc => by
  have keep : RV E' w c v := RV.keep (fun _ _ => rfl) hz hl c v hc
  cases c with
  | ptr i k off =>
   show RV E' w (if i = id then _ else _) v
   split
   ·rename_i hi
    subst hi
    split
    ·rename_i hk
     subst hk
     obtain ⟨hn, h1, vs, h2, h3, h4, h5⟩ := hold
     obtain ⟨_, rfl⟩ := hc
     refine ⟨_, _, vs.drop off, rfl, hb hn, RDs_drop off (RDs.keep (fun _ _ => rfl) hz ds vs (RVs_d.1 h2)), ?_⟩
     have := rangeAt_drop h3 off
     simpa using this
    ·trivial
   ·exact keep
  | _ => exact keep
attribute [simp] V.lift Blk.lift liftL liftH frzP
theorem RVs_setAt {E : Env} {w : World} {c : V} : ∀ {cs : List V} {vs : List Value} {j : Nat} {v : Value}, RVs E w cs vs → vs[j]? = some v → RV E w c v → RVs E w (cs.set j c) vs
 | [], vs, j, v, h, hv, _ => by
  have : vs = [] := h
  subst this; simp at hv
 | x :: cs, _, 0, v, ⟨u, r, h, h1, h2⟩, hv, hc => by
  subst h
  simp at hv; subst hv
  exact ⟨_, r, rfl, hc, h2⟩
 | x :: cs, _, j + 1, v, ⟨u, r, h, h1, h2⟩, hv, hc => by
  subst h
  exact ⟨u, r, rfl, h1, RVs_setAt h2 (by simpa using hv) hc⟩
theorem Sub.nilOwnBox {S : St} {bid j id T n : Nat} {cs : List V} (hcs : S.hp bid = some (.box cs)) (hj : cs[j]? = some (.d (.lit (.slice none 0 0)))) (hne : bid ≠ id) (hid : S.rts.contains id = false) (hn : 0 < n) :
  Sub S (((S.kill id).setH id (some (.arr T n []))).setH bid (some (.box ((killC id cs).set j (.ref id 0 0))))) := .of fun fx a w E m => by
 have hid' : id ∉ S.rts := by simpa using hid
 have m' := m.re (row := none) hid' ⟨rfl, rfl, rfl, Nat.le_refl _, fun _ _ _ => rfl⟩ (fun b hb => by cases hb) ⟨0, 0, n, 0, true, fun _ => False⟩ (blk := .arr T n []) ⟨by simp [Env.at], by simp [Env.at], (fun e he => by cases he), hn, .inl ⟨by simp [Env.at], rfl⟩⟩ (fun h => by cases h)
 obtain ⟨hnil, h1, vs, h2, h3, h4, h5⟩ := m.ok.hold bid _ hcs
 obtain ⟨v, hv, hrv⟩ := RVs_get h2 hj
 have hvn : v = .slice none 0 0 := RD_lit hrv
 subst hvn
 have hloc : (E.at id ⟨0, 0, n, 0, true, fun _ => False⟩).loc bid = E.loc bid := by simp [Env.at, hne]
 refine ⟨_, m'.wr (id := bid) (k0 := .box (killC id cs)) ?_ (by rw [hloc]; exact hnil) ⟨rfl, rfl, rfl, Nat.le_refl _, fun _ _ _ => rfl⟩ ?_⟩
 ·show (if bid = id then _ else if bid = id then _ else (S.hp bid).map (Blk.killed id)) = _
  rw [if_neg hne, if_neg hne, hcs]
  rfl
 ·refine ⟨by rw [hloc]; exact hnil, fun c hc => ?_, vs, RVs_setAt (RVs.killC h1 h2) hv (.inl ⟨by simp [Env.at], rfl, rfl, rfl⟩), by rw [hloc]; exact h3, by rw [hloc]; exact h4, by rw [hloc]; exact h5⟩
  rcases List.mem_or_eq_of_mem_set hc with hc | rfl
  ·exact killC_cell h1 c hc
  ·rfl
def delL {α : Type} (xs : List α) (i j : Int) : Option (List α) := if 0 ≤ i ∧ i < j ∧ j ≤ xs.length then some (xs.take i.toNat ++ xs.drop j.toNat) else none
theorem delL_some {α : Type} {xs r : List α} {a b : Int} (c : α → List D) (h : delL xs a b = some r) : ∃ i j : Nat, a = i ∧ b = j ∧ i < j ∧ j ≤ xs.length ∧ r.length = i + (xs.length - j) ∧ r.map c = (xs.map c).take i ++ (xs.map c).drop j := by
 obtain ⟨⟨h1, h2, h3⟩, h4⟩ := gsome h
 injection h4 with h4
 subst h4
 refine ⟨a.toNat, b.toNat, by omega, by omega, by omega, by omega, ?_, by simp⟩
 simp
 omega
section
variable {κ α : Type} [DecidableEq κ]
def vI (k : IntKind) (n : Int) : V := .d (.lit (.int k n))
def vB (b : Bool) : V := .d (.lit (.bool b))
def vS (s : ByteArray) : V := .d (.lit (.string s))
end
end Go.Ab
end
section
namespace Go.Ab
open Go.RowKit
theorem idx_nat {α : Type} {xs : List α} {k : Nat} {x : α} (h : xs[k]? = some x) : idx xs (k : Int) = some x := by
 unfold idx
 rw [if_pos (by omega)]
 simpa using h
@[simp] theorem letv_eq {α β : Type} (x : α) (k : α → β) : letv x k = k x := rfl
end Go.Ab
end
section
namespace Go.Ab
open Go.RowKit
def dI (k : IntKind) (n : Int) : D := .lit (.int k n)
def dB (b : Bool) : D := .lit (.bool b)
def dS (s : ByteArray) : D := .lit (.string s)
@[simp] theorem comp_dI (k : IntKind) : V.d ∘ dI k = vI k := rfl
@[simp] theorem comp_dB : V.d ∘ dB = vB := rfl
@[simp] theorem comp_dS : V.d ∘ dS = vS := rfl
attribute [simp] vI vB vS dI dB dS
structure Scal {α : Type} (v : α → V) (d : α → D) : Prop where
 is : ∀ x, v x = .d (d x)
 lit : ∀ x, ∃ u, d x = .lit u
theorem sI (k : IntKind) : Scal (vI k) (dI k) := ⟨fun _ => rfl, fun _ => ⟨_, rfl⟩⟩
theorem sB : Scal vB dB := ⟨fun _ => rfl, fun _ => ⟨_, rfl⟩⟩
theorem sS : Scal vS dS := ⟨fun _ => rfl, fun _ => ⟨_, rfl⟩⟩
section
variable {α : Type} {v : α → V} {d : α → D}
theorem Scal.map (h : Scal v d) (xs : List α) : xs.map v = (xs.map d).map V.d := by
 rw [List.map_map]
 exact List.map_congr_left fun x _ => h.is x
theorem Scal.allCell (h : Scal v d) (xs : List α) : (xs.map v).all V.cell = true := by
 rw [List.all_map, List.all_eq_true]
 intro x _
 show (v x).cell = true
 rw [h.is]; rfl
theorem Scal.all' (h : Scal v d) (xs : List α) : xs.all (V.cell ∘ v) = true := by
 have := h.allCell xs
 rwa [List.all_map] at this
theorem Scal.hasL (h : Scal v d) (id : Nat) (xs : List α) : Ab.hasL id (xs.map v) = false := by
 rw [h.map]; exact hasL_d _
theorem Scal.killC (h : Scal v d) (id : Nat) : ∀ xs : List α, Ab.killC id (xs.map v) = xs.map v
 | [] => rfl
 | x :: xs => by
  show (if (v x).has id then V.hole else v x) :: Ab.killC id (xs.map v) = _
  have : (v x).has id = false := by rw [h.is]; rfl
  rw [h.killC id xs, if_neg (by simp [this])]
  rfl
theorem Scal.closedL (h : Scal v d) (xs : List α) : Ab.closedL (xs.map v) = true := by
 rw [h.map]; exact closedL_d _
theorem Scal.flatL (h : Scal v d) : ∀ xs : List α, Ab.flatL (xs.map v) = true
 | [] => rfl
 | x :: xs => by
  show ((v x).flat && Ab.flatL (xs.map v)) = true
  obtain ⟨u, hu⟩ := h.lit x
  rw [h.flatL xs, h.is, hu]
  rfl
theorem Scal.viewV (h : Scal v d) (H : Heap) (xs : List α) : Ab.viewV H (.agg (xs.map v)) = some (.agg (xs.map v)) := by
 rw [h.map]
 show (mapO (viewD H 2) ((xs.map d).map V.d)).map _ = _
 rw [mapO_viewD_d]
 rfl
theorem Scal.viewD (h : Scal v d) (H : Heap) (k : Nat) (xs : List α) : mapO (Ab.viewD H k) (xs.map v) = some (xs.map d) := by
 rw [h.map]; exact mapO_viewD_d _
theorem Scal.toDs (h : Scal v d) (xs : List α) : Ab.toDs (xs.map v) = some (xs.map d) := by
 induction xs with
 | nil => rfl
 | cons x xs ih =>
  show (match toD (v x), Ab.toDs (xs.map v) with | some x, some xs => some (x :: xs) | _, _ => none) = _
  rw [ih, h.is]
  rfl
theorem Scal.frz1 (h : Scal v d) (id : Nat) (es : List (List D)) (xs : List α) : (xs.map v).map (V.frz1 id es) = xs.map v := by
 rw [List.map_map]
 refine List.map_congr_left fun x _ => ?_
 show V.frz1 id es (v x) = v x
 rw [h.is]; rfl
theorem Scal.wk1 (h : Scal v d) (hn : ∀ x, d x ≠ .lit (.slice none 0 0)) (xs : List α) : (xs.map v).map V.wk1 = xs.map v := by
 rw [List.map_map]
 refine List.map_congr_left fun x _ => ?_
 show V.wk1 (v x) = v x
 rw [h.is]
 have := hn x
 show V.d (d x).wk = _
 unfold D.wk
 split
 ·rename_i e; exact absurd e this
 ·rfl
end
@[simp] theorem all_vI (k : IntKind) (xs : List Int) : xs.all (V.cell ∘ vI k) = true := (sI k).all' xs
@[simp] theorem all_vB (xs : List Bool) : xs.all (V.cell ∘ vB) = true := sB.all' xs
@[simp] theorem all_vS (xs : List ByteArray) : xs.all (V.cell ∘ vS) = true := sS.all' xs
@[simp] theorem hasL_vI (k : IntKind) (id : Nat) (xs : List Int) : hasL id (xs.map (vI k)) = false := (sI k).hasL id xs
@[simp] theorem hasL_vB (id : Nat) (xs : List Bool) : hasL id (xs.map vB) = false := sB.hasL id xs
@[simp] theorem hasL_vS (id : Nat) (xs : List ByteArray) : hasL id (xs.map vS) = false := sS.hasL id xs
@[simp] theorem killC_vI (k : IntKind) (id : Nat) (xs : List Int) : killC id (xs.map (vI k)) = xs.map (vI k) := (sI k).killC id xs
@[simp] theorem killC_vB (id : Nat) (xs : List Bool) : killC id (xs.map vB) = xs.map vB := sB.killC id xs
@[simp] theorem killC_vS (id : Nat) (xs : List ByteArray) : killC id (xs.map vS) = xs.map vS := sS.killC id xs
@[simp] theorem closedL_vI (k : IntKind) (xs : List Int) : closedL (xs.map (vI k)) = true := (sI k).closedL xs
@[simp] theorem closedL_vB (xs : List Bool) : closedL (xs.map vB) = true := sB.closedL xs
@[simp] theorem closedL_vS (xs : List ByteArray) : closedL (xs.map vS) = true := sS.closedL xs
@[simp] theorem flatL_vI (k : IntKind) (xs : List Int) : flatL (xs.map (vI k)) = true := (sI k).flatL xs
@[simp] theorem flatL_vB (xs : List Bool) : flatL (xs.map vB) = true := sB.flatL xs
@[simp] theorem flatL_vS (xs : List ByteArray) : flatL (xs.map vS) = true := sS.flatL xs
@[simp high] theorem viewV_vI (k : IntKind) (H : Heap) (xs : List Int) : viewV H (.agg (xs.map (vI k))) = some (.agg (xs.map (vI k))) := (sI k).viewV H xs
@[simp high] theorem viewV_vB (H : Heap) (xs : List Bool) : viewV H (.agg (xs.map vB)) = some (.agg (xs.map vB)) := sB.viewV H xs
@[simp high] theorem viewV_vS (H : Heap) (xs : List ByteArray) : viewV H (.agg (xs.map vS)) = some (.agg (xs.map vS)) := sS.viewV H xs
@[simp] theorem viewD_vI (k : IntKind) (H : Heap) (n : Nat) (xs : List Int) : mapO (viewD H n) (xs.map (vI k)) = some (xs.map (dI k)) := (sI k).viewD H n xs
@[simp] theorem viewD_vB (H : Heap) (n : Nat) (xs : List Bool) : mapO (viewD H n) (xs.map vB) = some (xs.map dB) := sB.viewD H n xs
@[simp] theorem viewD_vS (H : Heap) (n : Nat) (xs : List ByteArray) : mapO (viewD H n) (xs.map vS) = some (xs.map dS) := sS.viewD H n xs
@[simp] theorem frz1_vI (k : IntKind) (id : Nat) (es : List (List D)) : V.frz1 id es ∘ vI k = vI k := rfl
@[simp] theorem frz1_vB (id : Nat) (es : List (List D)) : V.frz1 id es ∘ vB = vB := rfl
@[simp] theorem frz1_vS (id : Nat) (es : List (List D)) : V.frz1 id es ∘ vS = vS := rfl
@[simp] theorem frzP_vI (k : IntKind) (id : Nat) (es : List D) : frzP id es ∘ vI k = vI k := rfl
@[simp] theorem frzP_vB (id : Nat) (es : List D) : frzP id es ∘ vB = vB := rfl
@[simp] theorem wk1_vI (k : IntKind) : V.wk1 ∘ vI k = vI k := rfl
@[simp] theorem wk1_vB : V.wk1 ∘ vB = vB := rfl
@[simp] theorem wk1_vS : V.wk1 ∘ vS = vS := rfl
attribute [simp] List.drop_eq_nil_of_le
end Go.Ab
end
section
namespace Go.Ab
open Go.RowKit
def FunO (P : Program) (f : FuncId) (args : List V) (v : V) (blk : Blk) : Prop := Fun P f args (fun r k => r.ren 0 = v ∧ k = some blk)
def FinO (P : Program) (fn : Func) (v : V) (blk : Blk) (e : Exit) (S : St) : Prop :=
 (e = .normal ∨ e = .ret) ∧ ∃ r, outV (tyOf P) fn.results.toList S = some r ∧ ∃ id T n es, r.only id = true ∧ S.hp id = some (.arr T n es) ∧ r.ren 0 = v ∧ blk = .arr T n es
theorem FinO.ret {P : Program} {fn : Func} {v : V} {blk : Blk} {S : St} (r : V) (id : Nat) {T n : Nat} {es : List (List D)} (h1 : outV (tyOf P) fn.results.toList S = some r) (h2 : r.only id = true) (h3 : S.hp id = some (.arr T n es)) (h4 : r.ren 0 = v) (h5 : blk = .arr T n es) : FinO P fn v blk .ret S :=
 ⟨.inr rfl, r, h1, id, T, n, es, h2, h3, h4, h5⟩
theorem FunO.enter {P : Program} {f : FuncId} {fn : Func} {c : Code} {args : List V} {v : V} {blk : Blk} (nt : Nat) (l : List (Nat × V)) (hf : P.funcs[f]? = some fn) (hb : fn.body = some c) (hle : args.length ≤ fn.ntmps) (hn : fn.ntmps = nt) (hl : enterL args 0 = l)
  (h : AW P c (mk nt [] l []) (FinO P fn v blk)) : FunO P f args v blk := by
 subst hn; subst hl
 exact Fun.fin hf hb hle (h.mono fun _ _ ⟨h1, r, h2, id, T, n, es, h3, h4, h5, h6⟩ => ⟨h1, r, h2, .inr ⟨id, T, n, es, h3, h4, h5, by rw [h6]⟩⟩)
mutual
theorem ren_ren {d e : Nat} : ∀ (c : V), (c.ren e).ren d = c.ren d
 | .d _ => rfl
 | .dx _ => rfl
 | .ref .. => rfl
 | .ptr .. => rfl
 | .mref _ => rfl
 | .hole => rfl
 | .junk => rfl
 | .agg cs => by simp only [V.ren]; rw [renL_renL cs]
 | .tup cs => by simp only [V.ren]; rw [renL_renL cs]
 | .fn f cs => by simp only [V.ren]; rw [renL_renL cs]
theorem renL_renL {d e : Nat} : ∀ (cs : List V), renL d (renL e cs) = renL d cs
 | [] => rfl
 | c :: cs => by simp only [renL]; rw [ren_ren c, renL_renL cs]
end
theorem Chain.callO {P : Program} {ops : Array Oper} {o : Oper} {l : List Oper} {S : St} {Q' : St → Prop} {c : Call} {d : Nat} {f : FuncId} {caps args : List V} {v : V} {T n : Nat} {es : List (List D)} (hF : FunO P f args v (.arr T n es)) (hw : wantedV ops S o = some true) (ho : o.op = .call c) (hd : o.dst = some d)
  (hcal : calleeV S c = some (f, caps)) (hargs : mapO (viewV S.hp) (c.args.toList.map S.ev ++ caps) = some args) (hent : Rp.Enters P f) (hid : S.rts.contains d = false)
  (hclo : c.args.toList.map S.ev ++ caps = args ∧ closedL args = true)
  (hrest : Chain false P ops l (((S.kill d).setH d (some (.arr T n es))).put (some d) (v.ren d)) Q') : Chain false P ops (o :: l) S Q' := by
 refine Chain.call hw ho hd hcal hargs hent hF hid (.inl hclo) fun r k hq => ?_
 obtain ⟨h1, rfl⟩ := hq
 unfold St.got
 rw [← ren_ren (d := d) (e := 0) r, h1]
 exact hrest
end Go.Ab
end
section
namespace Go.Ab
open Go.RowKit Go.MapKept
def V.wf : V → V
 | .d (.lit (.func (.func f) _ _)) => .fn (.func f) []
 | v => v
theorem RV.wf {E : Env} {w : World} {c : V} {v : Value} (h : RV E w c v) : RV E w c.wf v := by
 unfold V.wf
 split
 ·rename_i f a b
  have h : RD w E.Z (.lit (.func (.func f) a b)) v := h
  obtain ⟨rfl, hp⟩ := h
  simp only [plain, Bool.and_eq_true, Array.isEmpty_iff] at hp
  obtain ⟨rfl, rfl⟩ := hp
  exact ⟨[], rfl, rfl⟩
 ·exact h
theorem FunC.argsF {P : Program} {f : FuncId} {args args' : List V} {v v' : V} (h : FunC P f args' v') (ha : args' = args.map V.wf) (hv : v' = v) : FunC P f args v := by
 subst ha; subst hv
 exact ⟨h.1, fun w Z vals hg hz hx => h.2 w Z vals hg hz (RVs.frz (fun _ _ h => RV.wf h) hx)⟩
def frzM (id : Nat) (x : D) : V → V
 | .mref i => if i = id then .d x else .mref i
 | v => v
attribute [simp] frzM
section
variable {κ α : Type} [DecidableEq κ]
end
def minI (x y : Int) : Int := if y < x then y else x
end Go.Ab
end
section
namespace Go.Ab
open Go.RowKit
def cM {κ α : Type} (kd : TypeDesc) (ag : Bool) (kf : κ → MKey) (cf : α → List D) (m : List (κ × α)) : List D := [.mpi kd ag (m.map (kf ∘ Prod.fst)) (m.map (cf ∘ Prod.snd))]
attribute [simp] cM
@[simp] theorem all_cM {κ α : Type} (kd : TypeDesc) (ag : Bool) (kf : κ → MKey) (cf : α → List D) (xs : List (List (κ × α))) : xs.all ((fun e => decide (e.length = 1)) ∘ cM kd ag kf cf) = true := all_len (c := cM kd ag kf cf) (fun _ => rfl) xs
@[simp ↓] theorem toList_beqD (x y : ByteArray) : (x.toList == y.toList) = decide (x = y) := toList_beq x y
theorem idx_someN {α : Type} {xs : List α} {n : Nat} {x : α} (h : idx xs (n : Int) = some x) : xs[n]? = some x ∧ n < xs.length ∧ ∀ h : n < xs.length, xs[n]'h = x := by
 obtain ⟨k, h1, h2, _, _⟩ := idx_some h
 simp at h1
 subst h1
 obtain ⟨h3, h4⟩ := List.getElem?_eq_some_iff.1 h2
 exact ⟨h2, h3, fun _ => h4⟩
theorem Sub.tt {nt : Nat} {rts : List Nat} {l l' : List (Nat × V)} {h h' : List (Nat × Option Blk)} (hl : ∀ p ∈ l', p.2 = tlook l p.1 := by simp) (hh : ∀ p ∈ h', p.2 = hlook h p.1 := by simp) : Sub (mk nt rts l h) (mk nt rts l' h') := .table hl hh
end Go.Ab
end
section
namespace Go.Ab
open Go.RowKit
mutual
theorem RV.relo {E E' : Env} {w : World} (hz : E'.Z = E.Z) : ∀ (c : V) (x : Value), (∀ id, c.has id = true → E'.loc id = E.loc id) → RV E w c x → RV E' w c x
 | .d x, v, _, h => by unfold RV at h ⊢; rw [hz]; exact h
 | .ref i off len, v, hh, h => by
  unfold RV at h ⊢
  rw [hh i (by simp [V.has])]
  exact h
 | .ptr i k off, v, hh, h => by
  unfold RV at h ⊢
  rw [hh i (by simp [V.has])]
  exact h
 | .mref i, v, hh, h => by
  unfold RV at h ⊢
  rw [hh i (by simp [V.has])]
  exact h
 | .agg cs, v, hh, ⟨vs, h1, h2, h3⟩ => ⟨vs, h1, h2, RVs.relo hz cs vs (fun id h => hh id (by simpa [V.has] using h)) h3⟩
 | .tup cs, v, hh, ⟨vs, h1, h2⟩ => ⟨vs, h1, RVs.relo hz cs vs (fun id h => hh id (by simpa [V.has] using h)) h2⟩
 | .fn f cs, v, hh, ⟨vs, h1, h2⟩ => ⟨vs, h1, RVs.relo hz cs vs (fun id h => hh id (by simpa [V.has] using h)) h2⟩
 | .dx es, v, _, h => by unfold RV at h ⊢; rw [hz]; exact h
 | .hole, _, _, h => h
 | .junk, _, _, _ => trivial
theorem RVs.relo {E E' : Env} {w : World} (hz : E'.Z = E.Z) : ∀ (cs : List V) (vs : List Value), (∀ id, hasL id cs = true → E'.loc id = E.loc id) → RVs E w cs vs → RVs E' w cs vs
 | [], vs, _, h => h
 | c :: cs, vs, hh, ⟨v, r, h1, h2, h3⟩ => ⟨v, r, h1, RV.relo hz c v (fun id h => hh id (by simp [hasL, h])) h2, RVs.relo hz cs r (fun id h => hh id (by simp [hasL, h])) h3⟩
end
def Free (H : Heap) (E : Env) (D : Nat) : Prop := (∀ i, H i ≠ none → ¬ (E.loc i).own D) ∧ ¬ E.Z D
def Env.more (E : Env) (Z : Nat → Prop) : Env := ⟨E.loc, fun b => E.Z b ∨ Z b⟩
def Fx.now (W : World) (E : Env) (H : Heap) (roots : List (Nat × Loc)) (d : List Deferred) (ro : Option Nat) (h : ∀ l, ro = some l → Free H E l ∧ ∃ r, W.heap[l]? = some (.loop r)) (g : GO E H W) : Fx :=
 ⟨W, E.Z, lof E H, roots, d, ro, fun l e => by
  obtain ⟨⟨h1, h2⟩, r, h3⟩ := h l e
  exact ⟨(Array.getElem?_eq_some_iff.1 h3).1, fun ⟨i, a, b⟩ => h1 i a b, h2, r, h3⟩, g.gw, g.own⟩
theorem Mod.now {fx : Fx} {S : St} {E : Env} {a : Act} {W : World} (m : Mod fx S E a W) (roots : List (Nat × Loc)) (d : List Deferred) (ro : Option Nat) (h : ∀ l, ro = some l → Free S.hp E l ∧ ∃ r, W.heap[l]? = some (.loop r))
  (hr : ∀ r ∈ roots, r.1 ∈ S.rts ∧ E.loc r.1 = r.2) : Mod (Fx.now W E S.hp roots d ro h m.go) S E { a with defers := d } W :=
 ⟨m.nt, m.slots, rfl, m.ok, ⟨rfl, rfl, rfl, Nat.le_refl _, fun _ _ _ => rfl⟩, fun i hi _b hn => .inr ⟨i, hi, hn⟩, fun _ h => .inl h, hr⟩
structure Since (W : World) (E : Env) (H : Heap) (lp : Nat) (W3 : World) (E3 : Env) (H3 : Heap) : Prop where
 os : W3.os = W.os
 tape : W3.tape = W.tape
 output : W3.output = W.output
 size : W.heap.size ≤ W3.heap.size
 block : ∀ b, b < W.heap.size → ¬ lof E H b → b ≠ lp → W3.heap[b]? = W.heap[b]?
 mine : ∀ i, H3 i ≠ none → ∀ b, (E3.loc i).own b → W.heap.size ≤ b ∨ lof E H b
 z : ∀ b, E3.Z b → E.Z b ∨ W.heap.size ≤ b ∨ lof E H b
theorem Mod.resume {fx : Fx} {nt : Nat} {rts : List Nat} {sl : Nat → V} {H : Heap} {E : Env} {a : Act} {W : World} (m : Mod fx ⟨nt, rts, sl, H⟩ E a W) {lp : Nat} (hlp : fx.w0.heap.size ≤ lp) (hlf : Free H E lp)
  {fx3 : Fx} {S3 : St} {E3 : Env} {a3 : Act} {W3 : World} (m3 : Mod fx3 S3 E3 a3 W3) (s : Since W E H lp W3 E3 S3.hp) (hids : ∀ t id, (sl t).has id = true → E3.loc id = E.loc id) (hroots : ∀ r ∈ fx.roots, E3.loc r.1 = E.loc r.1) :
  Mod fx ⟨nt, rts, sl, S3.hp⟩ (E3.more E.Z) a W3 := by
 have hk : Keeps E.Z W W3 := fun b hb => s.block b (m.ok.zlt b hb) (fun ⟨i, hi, hn⟩ => m.ok.apart i hi b hn hb) (fun e => hlf.2 (e ▸ hb))
 refine ⟨m.nt, fun t => ?_, m.dfr, ⟨fun id k hh => ?_, m3.ok.inj, fun i hi b hn h => ?_, fun b hb => ?_, m3.ok.xlt⟩, ⟨s.os.trans m.frame.os, s.tape.trans m.frame.tape, s.output.trans m.frame.output, Nat.le_trans m.frame.size s.size, fun b h1 h2 => ?_⟩, fun i hi b hn => ?_, fun b hb => ?_, fun r hr => ?_⟩
 ·have h1 : RV ⟨E.loc, (E3.more E.Z).Z⟩ W3 (sl t) (a.tmps.getD t undef) := RV.keep (E := E) (E' := ⟨E.loc, (E3.more E.Z).Z⟩) hk (fun b h => Or.inr h) rfl _ _ (m.slots t)
  exact RV.relo (E := ⟨E.loc, (E3.more E.Z).Z⟩) (E' := E3.more E.Z) rfl _ _ (fun id h => hids t id h) h1
 ·exact (m3.ok.hold id k hh).keep (E' := E3.more E.Z) (fun _ _ => rfl) (fun _ h => .inl h) rfl (fun _ _ => rfl) (Nat.le_refl _)
 ·rcases h with h | h
  ·exact m3.ok.apart i hi b hn h
  ·rcases s.mine i hi b hn with g | ⟨j, g1, g2⟩
   ·exact absurd (m.ok.zlt _ h) (by omega)
   ·exact m.ok.apart j g1 b g2 h
 ·rcases hb with h | h
  ·exact m3.ok.zlt b h
  ·exact Nat.lt_of_lt_of_le (m.ok.zlt b h) s.size
 ·have hs := m.frame.size
  refine (s.block b (by omega) (fun ⟨i, hi, hn⟩ => ?_) (by omega)).trans (m.frame.block b h1 h2)
  rcases m.mine i hi b hn with g | g
  ·omega
  ·exact h2 g
 ·have hs := m.frame.size
  rcases s.mine i hi b hn with g | ⟨j, g1, g2⟩
  ·exact .inl (by omega)
  ·exact m.mine j g1 b g2
 ·have hs := m.frame.size
  have hL : ∀ b, lof E H b → fx.w0.heap.size ≤ b ∨ fx.L b := fun b ⟨i, hi, hn⟩ => m.mine i hi b hn
  rcases hb with h | h
  ·rcases s.z b h with h | h | h
   ·exact m.z b h
   ·exact .inr (.inl (by omega))
   ·exact .inr (hL b h)
  ·exact m.z b h
 ·exact ⟨(m.roots r hr).1, (hroots r hr).trans (m.roots r hr).2⟩
theorem Since.free {W : World} {E : Env} {H : Heap} {lp : Nat} {W3 : World} {E3 : Env} {H3 : Heap} (s : Since W E H lp W3 E3 H3) {D : Nat} (hD : D < W.heap.size) (h : Free H E D) : Free H3 (E3.more E.Z) D := by
 refine ⟨fun i hi hn => ?_, fun hz => ?_⟩
 ·rcases s.mine i hi D hn with g | ⟨j, g1, g2⟩
  ·omega
  ·exact h.1 j g1 g2
 ·rcases hz with hz | hz
  ·rcases s.z D hz with g | g | ⟨j, g1, g2⟩
   ·exact h.2 g
   ·omega
   ·exact h.1 j g1 g2
  ·exact h.2 hz
theorem Mod.since {fx : Fx} {S : St} {E : Env} {a : Act} {W : World} (m : Mod fx S E a W) {W0 : World} {E0 : Env} {H0 : Heap} (lp : Nat) (h1 : ∃ o, fx.w0 = W0.putObj lp o) (h2 : fx.L = lof E0 H0) (h3 : fx.Z0 = E0.Z) : Since W0 E0 H0 lp W E S.hp := by
 obtain ⟨o, h1⟩ := h1
 have f := m.frame
 have mi := m.mine
 have mz := m.z
 rw [h1, h2] at mi
 rw [h1, h2, h3] at mz
 have hs : fx.w0.heap.size = W0.heap.size := by rw [h1, World.putObj_size]
 refine ⟨by rw [f.os, h1]; rfl, by rw [f.tape, h1]; rfl, by rw [f.output, h1]; rfl, by rw [← hs]; exact f.size, fun b hb hl hp => ?_, fun i hi b hn => ?_, fun b hb => ?_⟩
 ·rw [f.block b (by omega) (by rw [h2]; exact hl), h1]; exact World.putObj_heap_other hp
 ·have := mi i hi b hn; rw [World.putObj_size] at this; exact this
 ·have := mz b hb; rw [World.putObj_size] at this; exact this
theorem Mod.since0 {fx : Fx} {S : St} {E : Env} {a : Act} {W : World} (m : Mod fx S E a W) {W0 : World} {E0 : Env} {H0 : Heap} (lp : Nat) (h1 : fx.w0 = W0) (h2 : fx.L = lof E0 H0) (h3 : fx.Z0 = E0.Z) : Since W0 E0 H0 lp W E S.hp := by
 subst h1
 have f := m.frame
 have mi := m.mine
 have mz := m.z
 rw [h2] at mi
 rw [h2, h3] at mz
 exact ⟨f.os, f.tape, f.output, f.size, fun b hb hl _ => f.block b hb (by rw [h2]; exact hl), mi, mz⟩
theorem Free.less {H : Heap} {E : Env} {Z : Nat → Prop} {D : Nat} (h : Free H (E.more Z) D) : Free H E D := ⟨h.1, fun g => h.2 (.inl g)⟩
theorem Free.not {H : Heap} {E : Env} {D : Nat} (h : Free H E D) : ¬ lof E H D := fun ⟨i, a, b⟩ => h.1 i a b
theorem Mod.fresh {fx : Fx} {S : St} {E : Env} {a : Act} {W : World} (m : Mod fx S E a W) {D : Nat} (hf : Free S.hp E D) (hD : gN ≤ D) (o : Obj) (roots : List (Nat × Loc)) (ro : Option Nat) (h : ∀ l, ro = some l → Free S.hp E l ∧ ∃ r, (W.putObj D o).heap[l]? = some (.loop r))
  (hr : ∀ r ∈ roots, r.1 ∈ S.rts ∧ E.loc r.1 = r.2) : Mod (Fx.now (W.putObj D o) E S.hp roots a.defers ro h ⟨m.go.gw.keep (fun b hb => World.putObj_heap_other (Nat.ne_of_lt (Nat.lt_of_lt_of_le hb hD))) (by rw [World.putObj_size]; exact Nat.le_refl _), m.go.own⟩) S E a (W.putObj D o) := by
 have hk : Keeps E.Z W (W.putObj D o) := fun b hb => World.putObj_heap_other (fun e => hf.2 (e ▸ hb))
 refine ⟨m.nt, fun t => RV.keep hk (fun _ h => h) rfl _ _ (m.slots t), rfl, ⟨fun id k hh => ?_, m.ok.inj, m.ok.apart, fun b hb => by rw [World.putObj_size]; exact m.ok.zlt b hb, fun i hi b hb => by rw [World.putObj_size]; exact m.ok.xlt i hi b hb⟩, ⟨rfl, rfl, rfl, Nat.le_refl _, fun _ _ _ => rfl⟩, fun i hi b hn => .inr ⟨i, hi, hn⟩, fun _ h => .inl h, hr⟩
 exact (m.ok.hold id k hh).keep hk (fun _ h => h) rfl (fun b hn => World.putObj_heap_other (fun e => hf.1 id (by rw [hh]; simp) (e ▸ hn))) (by rw [World.putObj_size]; exact Nat.le_refl _)
theorem Since.trans {W1 W2 W3 : World} {E1 E2 E3 : Env} {H1 H2 H3 : Heap} {lp : Nat} (x : Since W1 E1 H1 lp W2 E2 H2) (y : Since W2 E2 H2 lp W3 E3 H3) : Since W1 E1 H1 lp W3 E3 H3 := by
 have hL : ∀ b, lof E2 H2 b → W1.heap.size ≤ b ∨ lof E1 H1 b := fun b ⟨i, hi, hn⟩ => x.mine i hi b hn
 have hs := x.size
 refine ⟨y.os.trans x.os, y.tape.trans x.tape, y.output.trans x.output, Nat.le_trans x.size y.size, fun b h1 h2 h3 => ?_, fun i hi b hn => ?_, fun b hb => ?_⟩
 ·refine (y.block b (by omega) (fun h => ?_) h3).trans (x.block b h1 h2 h3)
  rcases hL b h with h | h
  ·omega
  ·exact h2 h
 ·rcases y.mine i hi b hn with h | h
  ·exact .inl (by omega)
  ·exact hL _ h
 ·rcases y.z b hb with h | h | h
  ·exact x.z b h
  ·exact .inr (.inl (by omega))
  ·exact .inr (hL _ h)
end Go.Ab
end
section
namespace Go.Ab
open Go.RowKit
def rangeL {α β ρ : Type} (step : α → β → Option (Out β ρ)) : List α → β → Option (Out β ρ)
 | [], b => some (.go b)
 | x :: xs, b => match step x b with
  | some (.go b') => rangeL step xs b'
  | some (.ret r) => some (.ret r)
  | none => none
def elemV : List D → V
 | [c] => .d c
 | cs => .agg (cs.map .d)
@[simp] theorem elemV_one (c : D) : elemV [c] = .d c := rfl
@[simp] theorem elemV_two (c d : D) (cs : List D) : elemV (c :: d :: cs) = .agg ((c :: d :: cs).map .d) := rfl
attribute [simp] V.wk1 D.wk
theorem callsIn_rd {ro : Option Nat} {n k : Nat} {P : Program} {f : FuncId} {args : Array Value} {w : World} {R : Ending → World → Prop} (h : CallsIn Fence.wide n P f args w R) : CallsIn (Rd ro) k P f args w R := rd_calls (callsIn_wide.1 h)
theorem wpIn_any {ro : Option Nat} {n k : Nat} {P : Program} {c : Code} {Q : Exit → Act → World → Prop} {a : Act} {w : World} (h : c.wpIn (Rd ro) n P Q a w) : c.wpIn (Rd ro) k P Q a w := fun b kk cs h1 h2 _ => h b kk cs h1 h2 (fun _ hd => by cases hd)
theorem run_enterLoop_inner {P : Program} {w : World} {l0 : Nat} {r0 : Loop} (h : w.heap[l0]? = some (.loop r0)) (fn : FuncId) (tmps : Array Value) (ps : Array Tmp) (assign body : Code) :
  (Instr.enterLoop fn tmps ps assign body (some l0)).run P w = .ok (w.heap.size, []) (w.alloc (.loop { state := .ready, pending := none, fn, tmps, params := ps, assign, body, defers := r0.defers })) := by
 unfold Instr.enterLoop
 simp only [Sem.run_bind, run_getLoop h, run_newObj_alloc, Result.andThen, Sem.run_pure]
theorem grow_alloc (w : World) (o : Obj) : Grow w (w.alloc o) := ⟨rfl, rfl, rfl, by simp, fun b hb => Below.heap_alloc _ _ _ hb⟩
theorem Grow.trans' {a b c : World} (h : Grow a b) (k : Grow b c) : Grow a c := ⟨k.os.trans h.os, k.tape.trans h.tape, k.output.trans h.output, Nat.le_trans h.size k.size, fun i hi => (k.block i (Nat.lt_of_lt_of_le hi h.size)).trans (h.block i hi)⟩
theorem enter_any {P : Program} {w : World} {ro : Option Nat} (h : ∀ l, ro = some l → ∃ r, w.heap[l]? = some (.loop r)) (fn : FuncId) (tmps : Array Value) (ps : Array Tmp) (assign body : Code) :
  ∃ (lp D : Nat) (ms : List Nat) (W1 : World), (Instr.enterLoop fn tmps ps assign body ro).run P w = .ok (lp, ms.map coll) W1 ∧ W1.heap[lp]? = some (.loop { state := .ready, pending := none, fn, tmps, params := ps, assign, body, defers := D }) ∧ Grow w W1 ∧ w.heap.size ≤ lp ∧ ms.Nodup ∧
   ∀ d ∈ ms, w.heap.size ≤ d ∧ d ≠ lp ∧ W1.heap[d]? = some (.deferred (some [])) := by
 cases ro with
 | none =>
  refine ⟨_, w.heap.size, [w.heap.size], _, run_enterLoop_outer fn tmps ps assign body, ?_, (grow_alloc _ _).trans' (grow_alloc _ _), by omega, by simp, fun d hd => ?_⟩
  ·have := World.alloc_heap_new (w.alloc (.deferred (some []))) (.loop { state := .ready, pending := none, fn, tmps, params := ps, assign, body, defers := w.heap.size })
   rwa [World.size_alloc] at this
  ·obtain rfl : d = w.heap.size := by simpa using hd
   exact ⟨Nat.le_refl _, by omega, (Below.heap_alloc _ _ _ (by simp)).trans (World.alloc_heap_new w _)⟩
 | some l0 =>
  obtain ⟨r0, h0⟩ := h l0 rfl
  exact ⟨_, r0.defers, [], _, run_enterLoop_inner h0 fn tmps ps assign body, World.alloc_heap_new w _, grow_alloc _ _, Nat.le_refl _, List.nodup_nil, fun d hd => by cases hd⟩
def jumpOf : Exit → Option Code
 | .ret => some .ret
 | .exit id => some (.exit id)
 | .goto t => some (.goto t)
 | _ => none
def PostR {β ρ : Type} (nt : Nat) (rts rts' : List Nat) (l : List (Nat × V)) (Hst : β → List (Nat × Option Blk)) (r : ρ) (Q : Exit → St → Prop) : Out β ρ → Exit → St → Prop
 | .go b, e, S => e = .normal ∧ Sub S (mk nt rts' [] (Hst b))
 | .ret r', e, S => jumpOf e ≠ none ∧ ∃ h', Sub S (mk nt rts' [] h') ∧ (r' = r → Q e (mk nt rts l h'))
theorem tlook_has {id : Nat} : ∀ {l : List (Nat × V)} {t : Nat}, (tlook l t).has id = true → ∃ p ∈ l, p.2.has id = true
 | [], _, h => by simp [tlook, V.has] at h
 | (k, v) :: l, t, h => by
  simp only [tlook] at h
  split at h
  ·exact ⟨_, List.mem_cons_self .., h⟩
  ·obtain ⟨p, h1, h2⟩ := tlook_has h
   exact ⟨p, List.mem_cons_of_mem _ h1, h2⟩
theorem Free.grow {H : Heap} {E : Env} {w : World} (ok : E.ok H w) {D : Nat} (h : w.heap.size ≤ D) : Free H E D :=
 ⟨fun i hi hn => by
   have := ok.own_lt hi hn
   omega, fun hz => by have := ok.zlt D hz; omega⟩
theorem rangeL_drop {α β ρ : Type} {step : α → β → Option (Out β ρ)} {xs : List α} {k : Nat} {x : α} {b : β} {o : Out β ρ} (hx : xs[k]? = some x) (h : rangeL step (xs.drop k) b = some o) :
  (∃ b', step x b = some (.go b') ∧ rangeL step (xs.drop (k + 1)) b' = some o) ∨ ∃ r', step x b = some (.ret r') ∧ o = .ret r' := by
 obtain ⟨hlt, he⟩ := List.getElem?_eq_some_iff.1 hx
 rw [List.drop_eq_getElem_cons hlt, he] at h
 simp only [rangeL] at h
 split at h
 ·rename_i b' hb; exact .inl ⟨b', hb, h⟩
 ·rename_i r' hb; injection h with h; exact .inr ⟨r', hb, h.symm⟩
 ·cases h
section
variable {P : Program} {α β ρ : Type}
end
end Go.Ab
end
section
namespace Go.Ab
open Go.RowKit
theorem FunC.of_calls {P : Program} {f : FuncId} {args : List V} {vals : List Value} {r : Value} (hv : ∀ E w vs, RVs E w args vs → vs = vals) (hr : plain r = true)
  (h : ∀ w, GW w → Calls P f vals.toArray w fun e w' => e = .returned r ∧ Grow w w') : FunC P f args (.d (.lit r)) :=
 ⟨rfl, fun w Z vs hgw hz hvs => by
  rw [hv _ _ _ hvs]
  refine (h w hgw).mono ?_
  rintro e w' ⟨rfl, hg⟩
  exact ⟨r, default, Z, .d (.lit r), none, rfl, ⟨rfl, rfl⟩, ⟨rfl, hr⟩, (fun blk hb => by cases hb), (fun b hb => ⟨.inl hb, Nat.lt_of_lt_of_le (hz b hb) hg.size⟩), hg⟩⟩
end Go.Ab
end
section
namespace Go.Ab
open Go.RowKit
theorem RDs.wk {w : World} {Z : Nat → Prop} : ∀ {ds : List D} {vs : List Value}, RDs w Z ds vs → RDs w Z (ds.map D.wk) vs
 | [], _, h => h
 | _ :: _, _, ⟨v, r, h1, h2, h3⟩ => ⟨v, r, h1, RD.wk h2, RDs.wk h3⟩
theorem RDe.wk {w : World} {Z : Nat → Prop} : ∀ {es : List (List D)} {vs : List Value}, RDe w Z es vs → RDe w Z (es.map fun e => e.map D.wk) vs
 | [], _, h => h
 | _ :: _, _, ⟨a, r, h1, h2, h3⟩ => ⟨a, r, h1, RDs.wk h2, RDe.wk h3⟩
theorem Sub.wkRow {S : St} (id : Nat) {T n : Nat} {es : List (List D)} (hH : S.hp id = some (.arr T n es)) : Sub S (S.setH id (some (.arr T n (es.map fun e => e.map D.wk)))) := .of fun fx a w E md => by
 obtain ⟨g1, g2, g3, g4, g5⟩ := md.ok.hold _ _ hH
 have g3' : ∀ e ∈ es.map (fun e => e.map D.wk), e.length = n := fun e he => by
  obtain ⟨e', he', rfl⟩ := List.mem_map.1 he
  rw [List.length_map]; exact g3 e' he'
 rcases g5 with ⟨g6, rfl⟩ | ⟨hn, c, flat, k1, k2, k3, k4, k5, k6⟩
 ·have : S.setH id (some (.arr T n (([] : List (List D)).map fun e => e.map D.wk))) = S := by
   unfold St.setH
   congr 1
   funext i
   by_cases hi : i = id
   ·subst hi; rw [if_pos rfl, hH]; rfl
   ·rw [if_neg hi]
  rw [this]
  exact ⟨E, md⟩
 ·exact ⟨E, md.wr hH hn ⟨rfl, rfl, rfl, Nat.le_refl _, fun _ _ _ => rfl⟩ ⟨g1, g2, g3', g4, .inr ⟨hn, c, flat, k1, by rw [List.length_map]; exact k2, k3, k4, RDe.wk k5, by rw [List.length_map]; exact k6⟩⟩⟩
theorem frz1_ite {id : Nat} {es : List (List D)} {c : Prop} [Decidable c] {a b : V} : V.frz1 id es (if c then a else b) = if c then V.frz1 id es a else V.frz1 id es b := by split <;> rfl
theorem frz_ite {id : Nat} {es : List (List D)} {c : Prop} [Decidable c] {a b : V} : V.frz id es (if c then a else b) = if c then V.frz id es a else V.frz id es b := by split <;> rfl
end Go.Ab
end
section
namespace Go.Ab
open Go.RowKit
end Go.Ab
end
section
namespace Go.Ab
open Go.RowKit
def chunksL {α : Type} (n : Nat) (xs : List α) : List (List α) := (List.range ((xs.length + n - 1) / n)).map fun k => (xs.drop (k * n)).take n
def chunksO {α : Type} (v : Int) (xs : List α) : Option (List (List α)) := if 1 ≤ v ∧ v ≤ 1000000000000 ∧ xs.length ≤ 1000000000000 then some (chunksL v.toNat xs) else none
theorem chunksO_some {α : Type} {v : Int} {xs : List α} {cs : List (List α)} (h : chunksO v xs = some cs) : 1 ≤ v ∧ v ≤ 1000000000000 ∧ xs.length ≤ 1000000000000 ∧ cs = chunksL v.toNat xs := by
 unfold chunksO at h
 split at h
 ·rename_i hv; injection h with h; exact ⟨hv.1, hv.2.1, hv.2.2, h.symm⟩
 ·cases h
theorem chunksL_length {α : Type} (n : Nat) (xs : List α) : (chunksL n xs).length = (xs.length + n - 1) / n := by simp [chunksL]
theorem chunksL_get {α : Type} {n k : Nat} {xs x : List α} (h : (chunksL n xs)[k]? = some x) : x = (xs.drop (k * n)).take n := by
 unfold chunksL at h
 rw [List.getElem?_map] at h
 cases hr : (List.range ((xs.length + n - 1) / n))[k]? with
 | none => rw [hr] at h; cases h
 | some j =>
  rw [hr] at h
  have : j = k := by
   obtain ⟨h1, h2⟩ := List.getElem?_eq_some_iff.1 hr
   rw [List.getElem_range] at h2
   exact h2.symm
  subst this
  injection h with h
  exact h.symm
theorem chunk_lt {n k N : Nat} (hn : 1 ≤ n) : k < (N + n - 1) / n ↔ k * n < N := by
 rw [Nat.lt_div_iff_mul_lt hn]
 omega
def lenG (a b : Nat) : Option Unit := if a = b then some () else none
theorem lenG_some {a b : Nat} {u : Unit} (h : lenG a b = some u) : a = b := by
 unfold lenG at h
 split at h
 ·assumption
 ·cases h
def posG (v : Int) : Option Unit := if 1 ≤ v then some () else none
theorem posG_some {v : Int} {u : Unit} (h : posG v = some u) : 1 ≤ v := by
 unfold posG at h
 split at h
 ·assumption
 ·cases h
def ChunkArg (m : Nat) (p : Addr) (N n k : Nat) (W : World) (args : Array Value) : Prop :=
 ∃ b off cap, W.cell? p = some (.slice (some ⟨b, off, none⟩) N cap) ∧ N ≤ cap ∧ args = #[.slice (some ⟨b, off + k * n * m, none⟩) (min n (N - k * n)) (min n (N - k * n))]
def ChunkC (P : Program) (gf m : Nat) : Prop :=
 ∀ (pb po qb qo l N n : Nat) (J : Nat → World → Prop) (Jx : World → Prop) (W : World), N ≤ 1000000000000 → 1 ≤ n → n ≤ 1000000000000 →
  (∀ k W q, J k W → J k (W.drewN q)) →
  (∀ k W, J k W → (∃ A cap, W.cell? ⟨pb, po, none⟩ = some (.slice A N cap)) ∧ W.cell? ⟨qb, qo, none⟩ = some (.int .i64 (n : Int))) →
  (∀ k W, k * n < N → J k W → ∃ args, ChunkArg m ⟨pb, po, none⟩ N n k W args ∧ YieldAt Fence.wide 6 P l args W fun e W' => (e = .returned (.bool true) ∧ J (k + 1) W') ∨ (e = .returned (.bool false) ∧ Jx W')) →
  J 0 W → CallsIn Fence.wide 7 P gf #[.func (.yield l) #[] #[], .pointer (some ⟨pb, po, none⟩), .pointer (some ⟨qb, qo, none⟩)] W fun e W' => (∃ v, e = .returned v) ∧ ((∃ k, N ≤ k * n ∧ J k W') ∨ Jx W')
section
variable {P : Program} {α β ρ : Type}
set_option maxHeartbeats 1000000 in
theorem AW.chunk {tg : Nat} {p0 : Tmp} {assign body : Code} {S : St} {Q : Exit → St → Prop} {gf mz B B2 : Nat} {v : Int} {c : α → List D} {xs : List α} {step : List α → β → Option (Out β ρ)} {b0 : β} {o : Out β ρ} {r : ρ} {nt : Nat} {rts : List Nat} {l : List (Nat × V)}
  (Hst : β → List (Nat × Option Blk)) (rts' : List Nat) (hC : ChunkC P gf mz) (hent : Rp.Enters P gf) (h0 : Sub S (mk nt rts l (Hst b0)))
  (hg : tlook l tg = .fn (.func gf) [.ptr B 0 0, .ptr B2 0 0]) (hB : ∀ b, hlook (Hst b) B = some (.box [.d (.sl (xs.map c))])) (hB2 : ∀ b, hlook (Hst b) B2 = some (.box [.d (.lit (.int .i64 v))])) (hm : ∀ x, (c x).length = mz)
  (hrts : ∀ i ∈ rts, i ∈ rts') (hids : ∀ p ∈ l, ∀ id, p.2.has id = true → id ∈ rts')
  (hd : (chunksO v xs).bind (fun cs => rangeL step cs b0) = some o)
  (round : ∀ b x o', step x b = some o' → AW P assign ((mk nt rts' l (Hst b)).put (some p0) (.d (.sl (x.map c)))) (thenQ (fun S1 => AW P body S1 (PostR nt rts rts' l Hst r Q o')) (fun _ _ => False))) :
  AW P (.rangeFunc (.tmp tg) #[p0] assign body) S (PostJ (fun b => mk nt rts l (Hst b)) r Q o) := by
 obtain ⟨cs, hcs, hd⟩ := Option.bind_eq_some_iff.1 hd
 obtain ⟨hv1, hv2, hlen, rfl⟩ := chunksO_some hcs
 obtain ⟨n, rfl⟩ : ∃ n : Nat, v = (n : Int) := ⟨v.toNat, by omega⟩
 rw [Int.toNat_natCast] at hd
 intro fx a w m0
 obtain ⟨E0, m⟩ := h0 fx a w m0
 have hgv := m.ev (.tmp tg)
 rw [show (mk nt rts l (Hst b0)).ev (.tmp tg) = .fn (.func gf) [.ptr B 0 0, .ptr B2 0 0] from hg] at hgv
 obtain ⟨vs, hval, v0, r0, rfl, hp, v1, r1, rfl, hp2, rfl⟩ := hgv
 obtain ⟨hBn, rfl⟩ := hp
 obtain ⟨hBn2, rfl⟩ := hp2
 have hpin0 : ∀ t id, (tlook l t).has id = true → id ∈ rts' := fun t id h => by obtain ⟨p, h1, h2⟩ := tlook_has h; exact hids p h1 id h2
 refine wpIn_rangeFunc fun fn _ => ?_
 obtain ⟨lp, Dd, ms, W1, hrun, hL1, hgr, hlp, hnd, hms⟩ := enter_any (P := P) (w := w) (ro := fx.ro) (fun l0 e => by
  obtain ⟨g1, g2, _, r0, g4⟩ := fx.lrec l0 e
  exact ⟨r0, (m.frame.block l0 g1 g2).trans g4⟩) fn a.tmps #[p0] assign body
 obtain ⟨rec, hrec⟩ : ∃ rec : LoopState → Option Code → Loop, rec = fun st pe => { state := st, pending := pe, fn, tmps := a.tmps, params := #[p0], assign, body, defers := Dd } := ⟨_, rfl⟩
 have hL1 : W1.heap[lp]? = some (.loop (rec .ready none)) := by rw [hrec]; exact hL1
 have hlt1 : lp < W1.heap.size := (Array.getElem?_eq_some_iff.1 hL1).1
 obtain ⟨roots, hroots⟩ : ∃ roots : List (Nat × Loc), roots = rts'.map fun i => (i, E0.loc i) := ⟨_, rfl⟩
 obtain ⟨fxl, hfxl⟩ : ∃ fxl, fxl = Fx.now w E0 (hlook (Hst b0)) roots a.defers none (fun _ h => by cases h) m.go := ⟨_, rfl⟩
 have ml : Mod fxl ⟨nt, rts', tlook l, hlook (Hst b0)⟩ E0 a w := by
  subst hfxl
  exact ⟨m.nt, m.slots, rfl, m.ok, ⟨rfl, rfl, rfl, Nat.le_refl _, fun _ _ _ => rfl⟩, fun i hi b hn => .inr ⟨i, hi, hn⟩, fun _ h => .inl h, fun r hr => by
   rw [show (Fx.now w E0 (hlook (Hst b0)) roots a.defers none (fun _ h => by cases h) m.go).roots = roots from rfl, hroots] at hr
   obtain ⟨i, hi, rfl⟩ := List.mem_map.1 hr
   exact ⟨hi, rfl⟩⟩
 have hw0 : fxl.w0 = w := by rw [hfxl]; rfl
 have hrr : fxl.roots = rts'.map fun i => (i, E0.loc i) := by rw [hfxl, ← hroots]; rfl
 have hgD : gN ≤ lp := Nat.le_trans m.go.gw.lt hlp
 have pin : ∀ {b : β} {h : List (Nat × Option Blk)} {E : Env} {W : World}, Mod fxl ⟨nt, rts', tlook l, hlook h⟩ E a W → ∀ i ∈ rts', E.loc i = E0.loc i := fun {b h E W} mm i hi =>
  (mm.roots (i, E0.loc i) (by rw [hrr]; exact List.mem_map.2 ⟨i, hi, rfl⟩)).2
 have hBin : B ∈ rts' := hpin0 tg B (by rw [hg]; simp [V.has, hasL])
 have hBin2 : B2 ∈ rts' := hpin0 tg B2 (by rw [hg]; simp [V.has, hasL])
 obtain ⟨J, hJ⟩ : ∃ J : Nat → World → Prop, J = fun k W => ∃ b E, rangeL step ((chunksL n xs).drop k) b = some o ∧ Mod fxl ⟨nt, rts', tlook l, hlook (Hst b)⟩ E a W ∧ W.heap[lp]? = some (.loop (rec .ready none)) ∧ (∀ d ∈ ms, W.heap[d]? = some (.deferred (some []))) ∧ (∀ d ∈ lp :: ms, Free (hlook (Hst b)) E d) := ⟨_, rfl⟩
 obtain ⟨Jx, hJx⟩ : ∃ Jx : World → Prop, Jx = fun W => ∃ e jc h' E r', jumpOf e = some jc ∧ o = .ret r' ∧ (r' = r → Q e (mk nt rts l h')) ∧ Mod fxl ⟨nt, rts', tlook l, hlook h'⟩ E a W ∧ W.heap[lp]? = some (.loop (rec .done (some jc))) ∧ (∀ d ∈ ms, W.heap[d]? = some (.deferred (some []))) ∧ (∀ d ∈ lp :: ms, Free (hlook h') E d) := ⟨_, rfl⟩
 have hm1 : ∀ d ∈ lp :: ms, w.heap.size ≤ d ∧ d < W1.heap.size := fun d hd => by
  rcases List.mem_cons.1 hd with rfl | h
  ·exact ⟨hlp, hlt1⟩
  ·obtain ⟨g1, _, g3⟩ := hms d h
   exact ⟨g1, (Array.getElem?_eq_some_iff.1 g3).1⟩
 have hJ0 : J 0 W1 := by
  rw [hJ]
  exact ⟨b0, E0, hd, ml.grow hgr, hL1, fun d hd => (hms d hd).2.2, fun d hd => Free.grow m.ok (hm1 d hd).1⟩
 have behind : ∀ (h : List (Nat × Option Blk)) (E : Env) (W : World), Mod fxl ⟨nt, rts', tlook l, hlook h⟩ E a W → (∀ d ∈ ms, W.heap[d]? = some (.deferred (some []))) → (∀ d ∈ lp :: ms, Free (hlook h) E d) →
   ∃ fx', Ext fx fx' ∧ Models fx' (mk nt rts l h) { a with defers := ms.map coll ++ a.defers } W := by
  intro h E W mm hmk hfree
  have hE : ∀ i ∈ rts', E.loc i = E0.loc i := pin (b := b0) mm
  have hLl : ∀ b, lof E0 (hlook (Hst b0)) b → fx.w0.heap.size ≤ b ∨ fx.L b := fun b ⟨i, hi, hn⟩ => m.mine i hi b hn
  have hfl : fxl.L = lof E0 (hlook (Hst b0)) := by rw [hfxl]; rfl
  have hzl : fxl.Z0 = E0.Z := by rw [hfxl]; rfl
  have hsw := m.frame.size
  have hfr : fx.frame W := by
   have f := mm.frame
   refine ⟨f.os.trans (hw0 ▸ m.frame.os), f.tape.trans (hw0 ▸ m.frame.tape), f.output.trans (hw0 ▸ m.frame.output), Nat.le_trans hsw (hw0 ▸ f.size), fun b h1 h2 => ?_⟩
   have := f.block b (by rw [hw0]; omega) (by rw [hfl]; intro h; rcases hLl b h with h | h; omega; exact h2 h)
   rw [hw0] at this
   exact this.trans (m.frame.block b h1 h2)
  have hmine : ∀ b, lof E (hlook h) b → fx.w0.heap.size ≤ b ∨ fx.L b := fun b ⟨i, hi, hn⟩ => by
   rcases mm.mine i hi b hn with g | g
   ·rw [hw0] at g; exact .inl (by omega)
   ·rw [hfl] at g; exact hLl _ g
  have hz : ∀ b, E.Z b → fx.Z0 b ∨ fx.w0.heap.size ≤ b ∨ fx.L b := fun b hb => by
   rcases mm.z b hb with g | g | g
   ·rw [hzl] at g; exact m.z b g
   ·rw [hw0] at g; exact .inr (.inl (by omega))
   ·rw [hfl] at g; exact .inr (hLl b g)
  have hrec' : ∀ l0, fx.ro = some l0 → Free (hlook h) E l0 ∧ ∃ r, W.heap[l0]? = some (.loop r) := fun l0 e => by
   obtain ⟨g1, g2, g3, r0, g4⟩ := fx.lrec l0 e
   refine ⟨⟨fun i hi hn => ?_, fun hz' => ?_⟩, r0, (hfr.block l0 g1 g2).trans g4⟩
   ·rcases hmine l0 ⟨i, hi, hn⟩ with g | g
    ·omega
    ·exact g2 g
   ·rcases hz l0 hz' with g | g | g
    ·exact g3 g
    ·omega
    ·exact g2 g
  refine ⟨Fx.now W E (hlook h) fx.roots (ms.map coll ++ fx.dfr) fx.ro hrec' mm.go, ⟨rfl, hfr, hmine, hz, rfl, ms, rfl, hnd, fun d hd => ?_⟩, E, ?_⟩
  ·have h1 := hm1 d (List.mem_cons_of_mem _ hd)
   have h2 := hfree d (List.mem_cons_of_mem _ hd)
   have h3 := hmk d hd
   exact ⟨by omega, (Array.getElem?_eq_some_iff.1 h3).1, h3, h2.2, fun ⟨i, a1, a2⟩ => h2.1 i a1 a2⟩
  ·refine ⟨mm.nt, mm.slots, by rw [m.dfr]; rfl, mm.ok, ⟨rfl, rfl, rfl, Nat.le_refl _, fun _ _ _ => rfl⟩, fun i hi b hn => .inr ⟨i, hi, hn⟩, fun _ h => .inl h, fun r hr => ?_⟩
   obtain ⟨g1, g2⟩ := m.roots r hr
   exact ⟨g1, (hE r.1 (hrts _ g1)).trans g2⟩
 refine ⟨lp, ms.map coll, W1, { target := .fn (.func gf) [.pointer (some ⟨(E0.loc B).b, (E0.loc B).o + 0 * (E0.loc B).n + 0, none⟩), .pointer (some ⟨(E0.loc B2).b, (E0.loc B2).o + 0 * (E0.loc B2).n + 0, none⟩)].toArray, args := #[.func (.yield lp) #[] #[]] }, W1, gf, #[.func (.yield lp) #[] #[], .pointer (some ⟨(E0.loc B).b, (E0.loc B).o + 0 * (E0.loc B).n + 0, none⟩), .pointer (some ⟨(E0.loc B2).b, (E0.loc B2).o + 0 * (E0.loc B2).n + 0, none⟩)], W1, hrun, ?_, fun _ _ => trivial, ?_, (fun h => by cases h), ?_⟩
 ·simp only [resolve, hval]
  simp [go_sem]
 ·have := hent #[.func (.yield lp) #[] #[], .pointer (some ⟨(E0.loc B).b, (E0.loc B).o + 0 * (E0.loc B).n + 0, none⟩), .pointer (some ⟨(E0.loc B2).b, (E0.loc B2).o + 0 * (E0.loc B2).n + 0, none⟩)] W1
  simp [invoke, go_sem] at this ⊢
  exact this
 ·-- the boxes
  have rd : ∀ {b : β} {E : Env} {W : World}, Mod fxl ⟨nt, rts', tlook l, hlook (Hst b)⟩ E a W → ∃ u, W.cell? ⟨(E0.loc B).b, (E0.loc B).o + 0 * (E0.loc B).n + 0, none⟩ = some u ∧ RD W E.Z (.sl (xs.map c)) u := fun {b E W} mm => by
   obtain ⟨_, _, vs, hv, hra, _, _⟩ := mm.ok.hold B _ (hB b)
   obtain ⟨u, r0, rfl, hu, hr0⟩ := hv
   refine ⟨u, ?_, hu⟩
   have := hra 0 u rfl
   rw [pin (b := b) mm B hBin] at this
   simpa using this
  have rd2 : ∀ {b : β} {E : Env} {W : World}, Mod fxl ⟨nt, rts', tlook l, hlook (Hst b)⟩ E a W → W.cell? ⟨(E0.loc B2).b, (E0.loc B2).o + 0 * (E0.loc B2).n + 0, none⟩ = some (.int .i64 (n : Int)) := fun {b E W} mm => by
   obtain ⟨_, _, vs, hv, hra, _, _⟩ := mm.ok.hold B2 _ (hB2 b)
   obtain ⟨u, r0, rfl, hu, hr0⟩ := hv
   obtain ⟨rfl, _⟩ := hu
   have := hra 0 _ rfl
   rw [pin (b := b) mm B2 hBin2] at this
   simpa using this
  have hw1 : fxl.w0.heap.size ≤ lp := by rw [hw0]; exact hlp
  refine (callsIn_rd (hC _ _ _ _ lp xs.length n J Jx W1 hlen (by omega) (by omega) ?_ ?_ ?_ hJ0)).mono ?_
  ·intro k W q hk
   rw [hJ] at hk ⊢
   obtain ⟨b, E, hr, mm, hl, hmk, hfree⟩ := hk
   exact ⟨b, E, hr, mm.grow ⟨rfl, rfl, rfl, Nat.le_refl _, fun _ _ => rfl⟩, hl, hmk, hfree⟩
  ·intro k W hk
   rw [hJ] at hk
   obtain ⟨b, E, _, mm, _⟩ := hk
   obtain ⟨u, h1, A, cap, rfl, _, _, _⟩ := rd mm
   refine ⟨⟨A, cap, ?_⟩, by simpa using rd2 mm⟩
   simpa using h1
  ·intro k W hk hJk
   rw [hJ] at hJk
   obtain ⟨b, E, hr, mm, hl, hmk, hfree⟩ := hJk
   have hkl : k < (chunksL n xs).length := by rw [chunksL_length]; exact (chunk_lt (by omega)).2 hk
   obtain ⟨x, hx⟩ : ∃ x, (chunksL n xs)[k]? = some x := ⟨_, List.getElem?_eq_getElem hkl⟩
   have hxe : x = (xs.drop (k * n)).take n := chunksL_get hx
   obtain ⟨u, h1, hu⟩ := rd mm
   have hxm : x.map c = ((xs.map c).drop (k * n)).take n := by rw [hxe, List.map_take, List.map_drop]
   have hxl : x.length = min n (xs.length - k * n) := by rw [hxe, List.length_take, List.length_drop]
   obtain ⟨bb, off, cap, hu', hvs⟩ : ∃ bb off cap, u = .slice (some ⟨bb, off, none⟩) xs.length cap ∧ xs.length ≤ cap ∧ RD W E.Z (.sl (x.map c)) (.slice (some ⟨bb, off + k * n * mz, none⟩) (min n (xs.length - k * n)) (min n (xs.length - k * n))) := by
    obtain ⟨A, cap, hu1, g1, g2, _, g4⟩ := hu
    have hne : xs.map c ≠ [] := fun e => by
     have : xs.length = 0 := by have := congrArg List.length e; simpa using this
     omega
    obtain ⟨bb, off, n', flat, rfl, e2, e3, e4, e5⟩ := g4 hne
    have hn' : n' = mz := by
     cases xs with
     | nil => exact absurd rfl hne
     | cons x0 xs0 => rw [← e3 (c x0) (List.mem_cons_self ..), hm]
    subst hn'
    refine ⟨bb, off, cap, by rw [hu1, List.length_map], by simpa using g1, _, _, by rw [List.length_map, hxl], by rw [List.length_map, hxl]; exact Nat.le_refl _, by simp only [List.length_map] at g1; omega, (fun h => by cases h), fun _ => ?_⟩
    refine ⟨_, _, n', (flat.drop (k * n * n')).take (n * n'), rfl, e2, fun e he => ?_, ?_, ?_⟩
    ·rw [hxm] at he
     exact e3 e (List.mem_of_mem_drop (List.mem_of_mem_take he))
    ·rw [hxm]
     exact RDe_take n (RDe_drop (k * n) e4 e3) (fun e he => e3 e (List.mem_of_mem_drop he))
    ·exact rangeAt_take (rangeAt_drop e5 (k * n * n')) (n * n')
   subst hu'
   have hstep : ∃ o', step x b = some o' ∧ ((∃ b', o' = .go b' ∧ rangeL step ((chunksL n xs).drop (k + 1)) b' = some o) ∨ ∃ r', o' = .ret r' ∧ o = .ret r') := by
    rcases rangeL_drop hx hr with ⟨b', h2, h3⟩ | ⟨r', h2, h3⟩
    ·exact ⟨_, h2, .inl ⟨b', rfl, h3⟩⟩
    ·exact ⟨_, h2, .inr ⟨r', rfl, h3⟩⟩
   obtain ⟨o', hst, hcont⟩ := hstep
   refine ⟨_, ⟨bb, off, cap, by simpa using h1, hvs.1, rfl⟩, ?_⟩
   replace hvs := hvs.2
   have hy := run_yield (P := P) (args := #[.slice (some ⟨bb, off + k * n * mz, none⟩) (min n (xs.length - k * n)) (min n (xs.length - k * n))]) hl (by rw [hrec]; rfl)
   rw [hrec] at hy
   refine ⟨fn, _, assign, body, hy, roundIn_of_wpIn trivial ?_⟩
   clear hy
   have hfl := hfree lp (List.mem_cons_self ..)
   have hltW : lp < W.heap.size := (Array.getElem?_eq_some_iff.1 hl).1
   have hpinE := pin (b := b) mm
   have hrts1 : ∀ r ∈ roots, r.1 ∈ rts' ∧ E.loc r.1 = r.2 := fun r hr => by
    rw [hroots] at hr
    obtain ⟨i, hi, rfl⟩ := List.mem_map.1 hr
    exact ⟨hi, hpinE i hi⟩
   have m0 := mm.now roots [] (some lp) (fun l' e => by injection e with e; subst e; exact ⟨hfl, _, hl⟩) hrts1
   have m1 := m0.put (some p0) (v := .d (.sl (x.map c))) hvs
   have hA := round b x o' hst _ _ W ⟨E, m1⟩
   refine wpIn_any (ro := some lp) (n := 0) ?_
   refine Code.wpIn_mono ?_ (show assign.wpIn (Rd (some lp)) 0 P _ _ W from by simpa [Act.put, Fx.now] using hA)
   rintro e1 a1 Wa ⟨S1, fx1, hq, hx1, E1, m1'⟩
   cases e1 with
   | normal =>
    have hq : AW P body S1 (PostR nt rts rts' l Hst r Q o') := hq
    have m1b := m1'.back hx1
    have s1 := m1b.since0 (W0 := W) (E0 := E) (H0 := hlook (Hst b)) lp rfl rfl rfl
    have hla : Wa.heap[lp]? = some (.loop (rec .ready none)) := (m1b.frame.block lp hltW hfl.not).trans hl
    have hf1 : Free S1.hp E1 lp := (s1.free hltW hfl).less
    refine ⟨_, run_beginRound hla (by rw [hrec]), ?_⟩
    have hlb : (Wa.putObj lp (.loop { rec .ready none with state := .busy })).heap[lp]? = some (.loop { rec .ready none with state := .busy }) := World.putObj_heap_same (Array.getElem?_eq_some_iff.1 hla).1
    have m2 := m1'.fresh hf1 hgD (.loop { rec .ready none with state := .busy }) roots (some lp) (fun l' e => by injection e with e; subst e; exact ⟨hf1, _, hlb⟩) (fun r hr => m1b.roots r hr)
    have hB2 := hq _ _ _ ⟨E1, m2⟩
    refine wpIn_any (ro := some lp) (n := 0) ?_
    refine Code.wpIn_mono ?_ hB2
    rintro e3 a3 W3 ⟨S3, fx3, hp3, hx3, hM3⟩
    have fin : ∀ (h' : List (Nat × Option Blk)) (jump : Option Code), Sub S3 (mk nt rts' [] h') → ∃ E4 W4, (Instr.endRound lp jump).run P W3 = .ok (.bool jump.isNone) W4 ∧ Mod fxl ⟨nt, rts', tlook l, hlook h'⟩ E4 a W4 ∧ W4.heap[lp]? = some (.loop (rec (if jump.isNone then .ready else .done) jump)) ∧ (∀ d ∈ ms, W4.heap[d]? = some (.deferred (some []))) ∧ (∀ d ∈ lp :: ms, Free (hlook h') E4 d) := fun h' jump hsub => by
     obtain ⟨E3, m3⟩ := hsub _ _ _ hM3
     have m3b := m3.back hx3
     have s2 := m3b.since (W0 := Wa) (E0 := E1) (H0 := S1.hp) lp ⟨_, rfl⟩ rfl rfl
     have s := s1.trans s2
     have hl3 : W3.heap[lp]? = some (.loop { rec .ready none with state := .busy }) := (m3b.frame.block lp (Array.getElem?_eq_some_iff.1 hlb).1 hf1.not).trans hlb
     have hro3 : ∀ i ∈ rts', E3.loc i = E.loc i := fun i hi => (m3b.roots (i, E0.loc i) (by show _ ∈ roots; rw [hroots]; exact List.mem_map.2 ⟨i, hi, rfl⟩)).2.trans (hpinE i hi).symm
     have mr := mm.resume hw1 hfl m3 s (fun t id h => hro3 id (hpin0 t id h)) (fun r hr => by
      rw [hrr] at hr
      obtain ⟨i, hi, rfl⟩ := List.mem_map.1 hr
      exact hro3 i hi)
     have hf4 := s.free hltW hfl
     refine ⟨_, _, run_endRound jump hl3, mr.turn _ hw1 hf4.1 hf4.2, ?_, fun d hd => ?_, fun d hd => ?_⟩
     ·rw [hrec]; exact World.putObj_heap_same (Array.getElem?_eq_some_iff.1 hl3).1
     ·have hfd := hfree d (List.mem_cons_of_mem _ hd)
      have hdl := (hms d hd).2.1
      exact (World.putObj_heap_other hdl).trans ((s.block d (Array.getElem?_eq_some_iff.1 (hmk d hd)).1 hfd.not hdl).trans (hmk d hd))
     ·refine s.free ?_ (hfree d hd)
      rcases List.mem_cons.1 hd with rfl | h
      ·exact hltW
      ·exact (Array.getElem?_eq_some_iff.1 (hmk d h)).1
    have stop : ∀ jc, jumpOf e3 = some jc → e3 ≠ .normal → ∃ v w', (Instr.endRound lp (some jc)).run P W3 = .ok v w' ∧ ((Ending.returned v = .returned (.bool true) ∧ J (k + 1) w') ∨ (Ending.returned v = .returned (.bool false) ∧ Jx w')) := fun jc hj hne => by
     rcases hcont with ⟨b', rfl, hr'⟩ | ⟨r', rfl, ho⟩
     ·exact absurd hp3.1 hne
     ·obtain ⟨_, h', hsub, hQ⟩ := hp3
      obtain ⟨E4, W4, h1, h2, h3, h4, h5⟩ := fin h' (some jc) hsub
      refine ⟨_, _, h1, .inr ⟨rfl, ?_⟩⟩
      rw [hJx]
      exact ⟨e3, jc, h', E4, r', hj, ho, hQ, h2, h3, h4, h5⟩
    cases e3 with
    | normal =>
     rcases hcont with ⟨b', rfl, hr'⟩ | ⟨r', rfl, ho⟩
     ·obtain ⟨_, hsub⟩ := hp3
      obtain ⟨E4, W4, h1, h2, h3, h4, h5⟩ := fin (Hst b') none hsub
      refine ⟨_, _, h1, .inl ⟨rfl, ?_⟩⟩
      rw [hJ]
      exact ⟨b', E4, hr', h2, h3, h4, h5⟩
     ·exact absurd rfl hp3.1
    | ret => exact stop _ rfl (by simp)
    | exit id => exact stop _ rfl (by simp)
    | goto t => exact stop _ rfl (by simp)
    | panic ch =>
     rcases hcont with ⟨b', rfl, hr'⟩ | ⟨r', rfl, ho⟩
     ·cases hp3.1
     ·exact absurd rfl hp3.1
    | outgrown =>
     rcases hcont with ⟨b', rfl, hr'⟩ | ⟨r', rfl, ho⟩
     ·cases hp3.1
     ·exact absurd rfl hp3.1
   | exit id => exact hq.elim
   | goto t => exact hq.elim
   | ret => exact hq.elim
   | panic ch => exact hq.elim
   | outgrown => exact hq.elim
  ·rintro e W2 ⟨⟨v, rfl⟩, ⟨k, hk, h⟩ | h⟩
   ·rw [hJ] at h
    obtain ⟨b, E, hr, mm, hl, hmk, hfree⟩ := h
    have hfl := hfree lp (List.mem_cons_self ..)
    have ho : o = .go b := by
     rw [List.drop_of_length_le (by rw [chunksL_length]; exact Nat.not_lt.1 fun h => absurd ((chunk_lt (by omega)).1 h) (by omega))] at hr
     injection hr with hr; exact hr.symm
    obtain ⟨ob, hob⟩ : ∃ ob, (Instr.endLoop lp).run P W2 = .ok none (W2.putObj lp ob) := ⟨_, by have := run_endLoop (P := P) hl (by rw [hrec]; simp); rw [show (rec .ready none).pending = none from by rw [hrec]] at this; exact this⟩
    obtain ⟨fx', hx', hM⟩ := behind (Hst b) E _ (mm.turn ob hw1 hfl.1 hfl.2) (fun d hd => (World.putObj_heap_other (hms d hd).2.1).trans (hmk d hd)) hfree
    refine ⟨none, _, hob, ?_⟩
    exact ⟨_, fx', by rw [ho]; exact ⟨rfl, Sub.refl _⟩, hx', hM⟩
   ·rw [hJx] at h
    obtain ⟨e, jc, h', E, r', hj, ho, hQ, mm, hl, hmk, hfree⟩ := h
    have hfl := hfree lp (List.mem_cons_self ..)
    obtain ⟨ob, hob⟩ : ∃ ob, (Instr.endLoop lp).run P W2 = .ok (some jc) (W2.putObj lp ob) := ⟨_, by have := run_endLoop (P := P) hl (by rw [hrec]; simp); rw [show (rec .done (some jc)).pending = some jc from by rw [hrec]] at this; exact this⟩
    obtain ⟨fx', hx', hM⟩ := behind h' E _ (mm.turn ob hw1 hfl.1 hfl.2) (fun d hd => (World.putObj_heap_other (hms d hd).2.1).trans (hmk d hd)) hfree
    refine ⟨some jc, _, hob, ?_⟩
    have hend : ∀ hne : e ≠ .normal, Aft fx (PostJ (fun b => mk nt rts l (Hst b)) r Q o) e { a with defers := ms.map coll ++ a.defers } (W2.putObj lp ob) := fun hne => ⟨_, fx', by rw [ho]; exact ⟨hne, hQ⟩, hx', hM⟩
    cases e with
    | ret => injection hj with hj; subst hj; exact wpIn_ret (hend (by simp))
    | exit id => injection hj with hj; subst hj; exact wpIn_exit (hend (by simp))
    | goto t => injection hj with hj; subst hj; exact wpIn_goto (hend (by simp))
    | normal => cases hj
    | panic ch => cases hj
    | outgrown => cases hj
end
end Go.Ab
end
section
namespace Go.Ab
open Go.RowKit
@[simp] def FT (b : Nat → Bool) : List Nat → Prop
  | [] => True
  | j :: r => b j = true ∧ FT b r
@[simp] def FD (b : Nat → Bool) (i : Nat) : List (List Nat) → Nat → Prop
  | [], _ => True
  | a :: r, k => (a.contains i = true → b k = false) ∧ FD b i r (k + 1)
theorem FT_of {b : Nat → Bool} : ∀ {l : List Nat}, (∀ j, j ∈ l → b j = true) → FT b l
  | [], _ => trivial
  | j :: _r, h => ⟨h j (.head _), FT_of fun k hk => h k (.tail _ hk)⟩
theorem FD_of {b : Nat → Bool} {i : Nat} : ∀ {L : List (List Nat)} {n : Nat}, (∀ k, i ∈ L.getD k [] → b (n + k) = false) → FD b i L n
  | [], _, _ => trivial
  | a :: r, n, h => ⟨fun hc => h 0 (by simpa using hc), FD_of (n := n + 1) fun k hk => by
      have := h (k + 1) (by simpa using hk)
      rwa [show n + (k + 1) = n + 1 + k by omega] at this⟩
theorem fct {b : Nat → Bool} {i : Nat} {L : List (List Nat)} (h0 : b i = false) (ha : ∀ j, j ∈ L.getD i [] → b j = true) (hd : ∀ k, i ∈ L.getD k [] → b k = false) : b i = false ∧ FT b (L.getD i []) ∧ FD b i L 0 :=
  ⟨h0, FT_of ha, FD_of fun k hk => by rw [Nat.zero_add]; exact hd k hk⟩
theorem Chain.tt {q : Bool} {P : Program} {ops : Array Oper} {lo : List Oper} {nt : Nat} {rts : List Nat} {l : List (Nat × V)} {h : List (Nat × Option Blk)} {Q : St → Prop} (l' : List (Nat × V)) (h' : List (Nat × Option Blk)) (k : Chain q P ops lo (mk nt rts l' h') Q)
    (hl : ∀ p ∈ l', p.2 = tlook l p.1 := by simp) (hh : ∀ p ∈ h', p.2 = hlook h p.1 := by simp) : Chain q P ops lo (mk nt rts l h) Q := Chain.sub (.table hl hh) k
theorem AW.tt {P : Program} {c : Code} {nt : Nat} {rts : List Nat} {l : List (Nat × V)} {h : List (Nat × Option Blk)} {Q : Exit → St → Prop} (l' : List (Nat × V)) (h' : List (Nat × Option Blk)) (k : AW P c (mk nt rts l' h') Q)
    (hl : ∀ p ∈ l', p.2 = tlook l p.1 := by simp) (hh : ∀ p ∈ h', p.2 = hlook h p.1 := by simp) : AW P c (mk nt rts l h) Q := AW.sub (.table hl hh) k
theorem Chain.st {q : Bool} {P : Program} {ops : Array Oper} {lo : List Oper} {S : St} {Q : St → Prop} (S' : St) (k : Chain q P ops lo S' Q) (hs : Sub S S' := by (simp; exact Sub.table (by simp) (by simp))) : Chain q P ops lo S Q := Chain.sub hs k
theorem AW.st {P : Program} {c : Code} {S : St} {Q : Exit → St → Prop} (S' : St) (k : AW P c S' Q) (hs : Sub S S' := by (simp; exact Sub.table (by simp) (by simp))) : AW P c S Q := AW.sub hs k
theorem Chain.rk {P : Program} {ops : Array Oper} {l : List Oper} {S : St} {Q : St → Prop} (n : Nat) (h : ∀ K : List Oper → St → Prop, (∀ {l' S'}, Chain false P ops l' S' Q → K l' S') → thenK K (Ab.runM (tyOf P) [] ops n l S)) : Chain false P ops l S Q := .runK [] n fun K k => h K fun h => k _ _ h
theorem Chain.rq {q : Bool} {P : Program} {ops : Array Oper} {l : List Oper} {S : St} {Q : St → Prop} (n : Nat) (h : ∀ K : List Oper → St → Prop, (∀ {l' S'}, Chain q P ops l' S' Q → K l' S') → thenK K (Ab.runN (tyOf P) ops n l S)) : Chain q P ops l S Q := .runQ n fun K k => h K fun h => k _ _ h
@[simp] def FA (b : Nat → Bool) : Nat → Prop
  | 0 => True
  | n + 1 => b n = true ∧ FA b n
theorem FA_of {b : Nat → Bool} : ∀ {n : Nat}, (∀ i, i < n → b i = true) → FA b n
  | 0, _ => trivial
  | n + 1, h => ⟨h n (Nat.lt_succ_self n), FA_of fun i hi => h i (Nat.lt_succ_of_lt hi)⟩
end Go.Ab
end
