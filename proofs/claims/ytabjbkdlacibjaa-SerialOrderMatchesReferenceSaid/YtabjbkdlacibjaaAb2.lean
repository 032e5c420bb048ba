/- The abstract machine: what the pure operations yield. -/
import Derived.Test.YtabjbkdlacibjaaAb1
namespace Go.Ab
open Go.RowKit

/-! ### operands -/
def litV (v : Value) : V :=
  if plain v then .d (.lit v) else
  match v with
  | .agg cs => if cs.toList.all plain then .agg (cs.toList.map fun c => .d (.lit c)) else .junk
  | _ => .junk

theorem RVs_lits {E : Env} {w : World} : ∀ {cs : List Value}, cs.all plain = true → RVs E w (cs.map fun c => V.d (.lit c)) cs
  | [], _ => rfl
  | c :: cs, h => by
    rw [List.all_cons, Bool.and_eq_true] at h
    exact ⟨c, cs, rfl, ⟨rfl, h.1⟩, RVs_lits h.2⟩

theorem litV_sound (E : Env) (w : World) (v : Value) : RV E w (litV v) v := by
  unfold litV
  split
  · rename_i h; exact ⟨rfl, h⟩
  · split
    · rename_i cs _
      split
      · rename_i h
        refine ⟨cs.toList, by simp, fun c hc => ?_, RVs_lits h⟩
        obtain ⟨x, _, rfl⟩ := List.mem_map.1 hc
        rfl
      · trivial
    · trivial

def St.ev (S : St) : Operand → V
  | .tmp t => S.sl t
  | .const v => litV v
  | .func f => .d (.lit (.func (.func f) #[] #[]))
  | .global _ => .junk

theorem Mod.ev {fx : Fx} {S : St} {E : Env} {a : Act} {w : World} (m : Mod fx S E a w) (x : Operand) : RV E w (S.ev x) (a.eval x) := by
  cases x with
  | tmp t => exact m.slots t
  | const v => exact litV_sound E w v
  | global g => trivial
  | func f => exact ⟨rfl, rfl⟩

/-- a pure operation: one value, in every later world -/
def Pure (P : Program) (o : Op) (S : St) (v : V) : Prop :=
  ∀ (E : Env) (w : World) (ρ : Operand → Value) (oo : Oper), oo.op = o → E.ok S.hp w → (∀ x, RV E w (S.ev x) (ρ x)) → ∃ x, RV E w v x ∧ ∀ w', Grow w w' → (execOp ρ oo).run P w' = .ok (.value x) w'

/-! ### types -/
structure TI where
  desc : TypeDesc
  size : Nat
  bytes : Nat
  zero : Value

def tyOf (P : Program) (t : TypeId) : Option TI :=
  match P.info? t, P.underlying t with
  | some i, some d => match i.zero with
    | some z => some ⟨d, i.size, i.bytes, z⟩
    | none => none
  | _, _ => none

theorem tyOf_spec {P : Program} {t : TypeId} {ti : TI} (h : tyOf P t = some ti) : P.underlying t = some ti.desc ∧ ∃ i, P.info? t = some i ∧ i.size = ti.size ∧ i.bytes = ti.bytes ∧ i.zero = some ti.zero := by
  unfold tyOf at h
  split at h
  · rename_i i d hi hd
    split at h
    · rename_i z hz
      injection h with h
      subst h
      exact ⟨hd, i, hi, rfl, rfl, hz⟩
    · cases h
  · cases h

theorem run_sizeOf {P : Program} {t : TypeId} {ti : TI} (h : tyOf P t = some ti) (w : World) : (sizeOf t).run P w = .ok ti.size w := by
  obtain ⟨_, i, hi, hs, _⟩ := tyOf_spec h
  simp [sizeOf, typeInfo, hi, hs]
theorem run_und {P : Program} {t : TypeId} {ti : TI} (h : tyOf P t = some ti) (w : World) : (underlying t).run P w = .ok ti.desc w := run_underlying (tyOf_spec h).1 w
theorem run_zero {P : Program} {t : TypeId} {ti : TI} (h : tyOf P t = some ti) (w : World) : (zeroValue t).run P w = .ok ti.zero w := by
  obtain ⟨_, i, hi, _, _, hz⟩ := tyOf_spec h
  simp [zeroValue, typeInfo, hi, hz]

/-! ### lists of values -/
theorem RVs_length {E : Env} {w : World} : ∀ {cs : List V} {vs : List Value}, RVs E w cs vs → vs.length = cs.length
  | [], _, h => by
    have : _ = [] := h
    simp [this]
  | _ :: _, _, ⟨v, r, h, _, h2⟩ => by subst h; simp [RVs_length h2]
theorem RVs_get {E : Env} {w : World} : ∀ {cs : List V} {vs : List Value}, RVs E w cs vs → ∀ {i : Nat} {c : V}, cs[i]? = some c → ∃ v, vs[i]? = some v ∧ RV E w c v
  | [], _, _, i, c, hc => by simp at hc
  | _ :: _, _, ⟨v, r, h, h1, h2⟩, 0, c, hc => by subst h; simp at hc; subst hc; exact ⟨v, rfl, h1⟩
  | _ :: _, _, ⟨v, r, h, h1, h2⟩, i + 1, c, hc => by subst h; simpa using RVs_get h2 (by simpa using hc)
theorem RVs_drop {E : Env} {w : World} : ∀ {cs : List V} {vs : List Value} (k : Nat), RVs E w cs vs → RVs E w (cs.drop k) (vs.drop k)
  | [], _, k, h => by
    have : _ = [] := h
    subst this
    simp [RVs]
  | _ :: _, _, 0, h => h
  | _ :: _, _, k + 1, ⟨v, r, h, h1, h2⟩ => by subst h; exact RVs_drop k h2
theorem RVs_take {E : Env} {w : World} : ∀ {cs : List V} {vs : List Value} (k : Nat), RVs E w cs vs → RVs E w (cs.take k) (vs.take k)
  | [], _, k, h => by
    have : _ = [] := h
    subst this
    simp [RVs]
  | _ :: _, _, 0, h => by simp [RVs]
  | _ :: _, _, k + 1, ⟨v, r, h, h1, h2⟩ => by subst h; exact ⟨v, r.take k, rfl, h1, RVs_take k h2⟩
theorem RVs_append {E : Env} {w : World} : ∀ {cs ds : List V} {vs us : List Value}, RVs E w cs vs → RVs E w ds us → RVs E w (cs ++ ds) (vs ++ us)
  | [], _, _, _, h, h2 => by
    have : _ = [] := h
    subst this
    exact h2
  | _ :: _, _, _, _, ⟨v, r, h, h1, h2⟩, g => by subst h; exact ⟨v, r ++ _, rfl, h1, RVs_append h2 g⟩
theorem RVs_d {E : Env} {w : World} : ∀ {cs : List D} {vs : List Value}, RVs E w (cs.map V.d) vs ↔ RDs w E.Z cs vs
  | [], vs => Iff.rfl
  | c :: cs, vs => by
    constructor
    · rintro ⟨v, r, h, h1, h2⟩; exact ⟨v, r, h, h1, RVs_d.1 h2⟩
    · rintro ⟨v, r, h, h1, h2⟩; exact ⟨v, r, h, h1, RVs_d.2 h2⟩
theorem RDs_length {w : World} {Z : Nat → Prop} : ∀ {cs : List D} {vs : List Value}, RDs w Z cs vs → vs.length = cs.length
  | [], _, h => by
    have : _ = [] := h
    simp [this]
  | _ :: _, _, ⟨v, r, h, _, h2⟩ => by subst h; simp [RDs_length h2]
theorem RDs_drop {w : World} {Z : Nat → Prop} : ∀ {cs : List D} {vs : List Value} (k : Nat), RDs w Z cs vs → RDs w Z (cs.drop k) (vs.drop k)
  | [], _, k, h => by
    have : _ = [] := h
    subst this
    simp [RDs]
  | _ :: _, _, 0, h => h
  | _ :: _, _, k + 1, ⟨v, r, h, h1, h2⟩ => by subst h; exact RDs_drop k h2
theorem RDs_append {w : World} {Z : Nat → Prop} : ∀ {cs ds : List D} {vs us : List Value}, RDs w Z cs vs → RDs w Z ds us → RDs w Z (cs ++ ds) (vs ++ us)
  | [], _, _, _, h, h2 => by
    have : _ = [] := h
    subst this
    exact h2
  | _ :: _, _, _, _, ⟨v, r, h, h1, h2⟩, g => by subst h; exact ⟨v, r ++ _, rfl, h1, RDs_append h2 g⟩

/-- one group of cells among the groups -/
theorem RDe_get {w : World} {Z : Nat → Prop} {n : Nat} : ∀ {es : List (List D)} {flat : List Value}, RDe w Z es flat → (∀ e ∈ es, e.length = n) → ∀ {i : Nat} {e : List D}, es[i]? = some e →
    ∃ c1 vs c2, flat = c1 ++ (vs ++ c2) ∧ c1.length = i * n ∧ RDs w Z e vs
  | [], _, _, _, i, e, he => by simp at he
  | _ :: _, _, ⟨a, r, h, h1, h2⟩, hn, 0, e, he => by
    simp only [List.getElem?_cons_zero, Option.some.injEq] at he
    subst he; subst h
    exact ⟨[], a, r, rfl, by simp, h1⟩
  | x :: es, _, ⟨a, r, h, h1, h2⟩, hn, i + 1, e, he => by
    subst h
    obtain ⟨c1, vs, c2, h3, h4, h5⟩ := RDe_get h2 (fun e he => hn e (.tail _ he)) (i := i) (e := e) (by simpa using he)
    refine ⟨a ++ c1, vs, c2, by rw [h3]; simp, ?_, h5⟩
    rw [List.length_append, h4, RDs_length h1, hn x (.head _), Nat.add_mul, Nat.one_mul, Nat.add_comm]
theorem RDe_length {w : World} {Z : Nat → Prop} {n : Nat} : ∀ {es : List (List D)} {flat : List Value}, RDe w Z es flat → (∀ e ∈ es, e.length = n) → flat.length = es.length * n
  | [], _, h, _ => by
    have : _ = [] := h
    simp [this]
  | x :: es, _, ⟨a, r, h, h1, h2⟩, hn => by
    subst h
    rw [List.length_append, RDs_length h1, hn x (.head _), RDe_length h2 (fun e he => hn e (.tail _ he)), List.length_cons, Nat.add_mul, Nat.one_mul, Nat.add_comm]
theorem RDe_append {w : World} {Z : Nat → Prop} : ∀ {es fs : List (List D)} {vs us : List Value}, RDe w Z es vs → RDe w Z fs us → RDe w Z (es ++ fs) (vs ++ us)
  | [], _, _, _, h, h2 => by
    have : _ = [] := h
    subst this
    exact h2
  | _ :: _, _, _, _, ⟨a, r, h, h1, h2⟩, g => by subst h; exact ⟨a, r ++ _, by simp, h1, RDe_append h2 g⟩

theorem RD_cell {w : World} {Z : Nat → Prop} {d : D} {v : Value} (h : RD w Z d v) : v.oneCell' = true := by
  cases d with
  | lit u => obtain ⟨rfl, hp⟩ := h; cases v <;> first | rfl | (simp [plain] at hp)
  | sl es => obtain ⟨A, cap, rfl, _⟩ := h; rfl
  | pim cs => obtain ⟨b, o, vs, rfl, _⟩ := h; rfl
  | ifc t x => obtain ⟨v, rfl, _⟩ := h; rfl
  | fn f caps => obtain ⟨vs, rfl, _⟩ := h; rfl
theorem RV_cell {E : Env} {w : World} {c : V} {v : Value} (h : RV E w c v) (hc : c.cell = true) : v.oneCell' = true := by
  cases c with
  | d x => exact RD_cell h
  | ref id off len => rcases h with ⟨_, _, _, rfl⟩ | ⟨_, _, a, rfl, _⟩ <;> rfl
  | ptr id i off => obtain ⟨_, rfl⟩ := h; rfl
  | mref id => have : _ = _ := h; rw [this]; rfl
  | fn f caps => obtain ⟨vs, rfl, _⟩ := h; rfl
  | agg cs => cases hc
  | tup cs => cases hc
  | dx es => cases hc
  | hole => exact h
  | junk => cases hc
theorem RVs_cell {E : Env} {w : World} : ∀ {cs : List V} {vs : List Value}, RVs E w cs vs → (∀ c ∈ cs, c.cell = true) → ∀ v ∈ vs, v.oneCell' = true
  | [], _, h, _, v, hv => by
    have : _ = [] := h
    rw [this] at hv; cases hv
  | _ :: _, _, ⟨v, r, h, h1, h2⟩, hc, u, hu => by
    subst h
    rcases List.mem_cons.1 hu with rfl | hu
    · exact RV_cell h1 (hc _ (.head _))
    · exact RVs_cell h2 (fun c h => hc c (.tail _ h)) u hu

theorem rangeAt_mid {w : World} {b o : Nat} {c1 vs c2 : List Value} (h : w.rangeAt b o (c1 ++ (vs ++ c2))) : w.rangeAt b (o + c1.length) vs := fun j v hv => by
  have := h (c1.length + j) v (by rw [List.getElem?_append_right (by omega), Nat.add_sub_cancel_left, List.getElem?_append_left (List.getElem?_eq_some_iff.1 hv).1]; exact hv)
  rwa [← Nat.add_assoc] at this
theorem rangeAt_drop {w : World} {b o : Nat} {vs : List Value} (h : w.rangeAt b o vs) (k : Nat) : w.rangeAt b (o + k) (vs.drop k) := fun j v hv => by
  rw [List.getElem?_drop] at hv
  have := h _ v hv
  rwa [← Nat.add_assoc] at this
theorem rangeAt_take {w : World} {b o : Nat} {vs : List Value} (h : w.rangeAt b o vs) (k : Nat) : w.rangeAt b o (vs.take k) := fun j v hv => by
  rw [List.getElem?_take] at hv
  split at hv
  · exact h j v hv
  · cases hv

/-! ### memory at a pointer -/
/-- the cells that are known at a pointer -/
def cellsAt (H : Heap) : V → Option (List V)
  | .d (.pim cs) => some (cs.map .d)
  | .ptr id i off => match H id with
    | some (.box cs) => if i = 0 then some (cs.drop off) else none
    | some (.arr _ _ es) => match es[i]? with
      | some e => some ((e.drop off).map .d)
      | none => none
    | _ => none
  | _ => none

theorem arr_range {w : World} {b T : Nat} {c : Array Value} {flat : List Value} (h : w.heap[b]? = some (.cells c T (0, 0))) (ht : ∃ k, c.toList.take k = flat) : w.rangeAt b 0 flat := by
  intro j v hv
  obtain ⟨k, rfl⟩ := ht
  rw [List.getElem?_take] at hv
  split at hv
  · simp only [World.cell?, h, Nat.zero_add]
    simpa using hv
  · cases hv

theorem cellsAt_sound {E : Env} {H : Heap} {w : World} (ok : E.ok H w) {p : V} {v : Value} (h : RV E w p v) {cs : List V} (hc : cellsAt H p = some cs) :
    ∃ b o vs, v = .pointer (some ⟨b, o, none⟩) ∧ RVs E w cs vs ∧ w.rangeAt b o vs ∧ (∀ c ∈ cs, c.cell = true) ∧ b < w.heap.size := by
  unfold cellsAt at hc
  split at hc
  · rename_i ds
    injection hc with hc
    subst hc
    obtain ⟨b, o, vs, rfl, hz, h1, h2⟩ := h
    exact ⟨b, o, vs, rfl, RVs_d.2 h1, h2, fun c hc => by obtain ⟨x, _, rfl⟩ := List.mem_map.1 hc; rfl, ok.zlt _ hz⟩
  · rename_i id i off
    obtain ⟨hn, rfl⟩ := h
    split at hc
    · rename_i ds hH
      split at hc
      · rename_i hi
        injection hc with hc
        subst hc; subst hi
        obtain ⟨_, h1, vs, h2, h3, h4, h5⟩ := ok.hold _ _ hH
        refine ⟨_, _, vs.drop off, rfl, RVs_drop off h2, ?_, fun c hc => h1 c (List.mem_of_mem_drop hc), h5⟩
        have := rangeAt_drop h3 off
        simpa using this
      · cases hc
    · rename_i T n es hH
      split at hc
      · rename_i e he
        injection hc with hc
        subst hc
        obtain ⟨h1, h2, h3, h4, h5⟩ := ok.hold _ _ hH
        rcases h5 with ⟨h6, _⟩ | ⟨_, c, flat, h7, h8, h9, h10, h11, h12⟩
        · rw [hn] at h6; cases h6
        · obtain ⟨c1, vs, c2, h13, h14, h15⟩ := RDe_get h11 h3 he
          have hr := arr_range h7 ⟨_, h12⟩
          rw [h13] at hr
          have hr2 := rangeAt_drop (rangeAt_mid hr) off
          refine ⟨_, _, vs.drop off, rfl, RVs_d.2 (RDs_drop off h15), ?_, fun c hc => by obtain ⟨x, _, rfl⟩ := List.mem_map.1 hc; rfl, (Array.getElem?_eq_some_iff.1 h7).1⟩
          rw [h2, h1]
          rw [h14, Nat.zero_add] at hr2
          rw [Nat.zero_add]
          exact hr2
      · cases hc
    · cases hc
  · cases hc

def TypeDesc.row : TypeDesc → Bool
  | .struct _ | .array _ _ => true
  | _ => false

/-- a load -/
def ldV (ti : TI) (cs : List V) : Option V :=
  if TypeDesc.row ti.desc then (if ti.size ≤ cs.length then some (.agg (cs.take ti.size)) else none) else cs[0]?

theorem run_loadAt {P : Program} {T : TypeId} {ti : TI} (ht : tyOf P T = some ti) {E : Env} {w w' : World} {b o : Nat} {cs : List V} {vs : List Value} (h1 : RVs E w cs vs) (h2 : w'.rangeAt b o vs) (hc : ∀ c ∈ cs, c.cell = true) {v : V} (hv : ldV ti cs = some v) :
    ∃ x, RV E w v x ∧ (∀ w'', w''.rangeAt b o vs → (Instr.loadAt T (.pointer (some ⟨b, o, none⟩))).run P w'' = .ok x w'') := by
  have hl := RVs_length h1
  obtain ⟨hu, i, hi, hs, _⟩ := tyOf_spec ht
  unfold ldV at hv
  split at hv
  · rename_i hr
    split at hv
    · rename_i hle
      injection hv with hv
      subst hv
      refine ⟨.agg (vs.take ti.size).toArray, ⟨_, rfl, fun c h => hc c (List.mem_of_mem_take h), RVs_take _ h1⟩, fun w'' hw => ?_⟩
      exact run_loadAt_mid w'' b o T (vs.take ti.size) ti.desc (rangeAt_take hw _) hu (by cases hd : ti.desc <;> simp_all [TypeDesc.row, TypeDesc.isRow]) (by rw [hi]; simp [hs]; omega)
    · cases hv
  · rename_i hr
    obtain ⟨x, hx, hrx⟩ := RVs_get h1 hv
    refine ⟨x, hrx, fun w'' hw => ?_⟩
    have hcell := hw 0 x hx
    have hagg : (isAgg T).run P w'' = .ok false w'' := by
      unfold isAgg
      rw [Sem.run_bind, run_und ht w'']
      cases hd : ti.desc <;> simp_all [TypeDesc.row]
    rw [Nat.add_zero] at hcell
    simp [Instr.loadAt, Instr.sureAddr, loadVar, hagg, load, Sem.run, hcell]
end Go.Ab
