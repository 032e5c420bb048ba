/- The abstract machine: the pure operations evaluated. -/
import Derived.Test.YtabjbkdlacibjaaAb2
namespace Go.Ab
open Go.RowKit

/-! ### pointers -/
def offP (p : V) (k : Nat) : Option V :=
  match p with
  | .d (.pim cs) => some (.d (.pim (cs.drop k)))
  | .ptr id i off => some (.ptr id i (off + k))
  | _ => none

theorem offP_sound {E : Env} {w : World} {p p' : V} {v : Value} {k : Nat} (h : RV E w p v) (hp : offP p k = some p') : ∃ b o, v = .pointer (some ⟨b, o, none⟩) ∧ RV E w p' (.pointer (some ⟨b, o + k, none⟩)) := by
  unfold offP at hp
  split at hp
  · injection hp with hp
    subst hp
    obtain ⟨b, o, vs, rfl, hz, h1, h2⟩ := h
    exact ⟨b, o, rfl, b, o + k, vs.drop k, rfl, hz, RDs_drop k h1, rangeAt_drop h2 k⟩
  · injection hp with hp
    subst hp
    obtain ⟨hn, rfl⟩ := h
    exact ⟨_, _, rfl, hn, by rw [Nat.add_assoc]⟩
  · cases hp

theorem add_addr (b o k : Nat) : (⟨b, o, none⟩ : Addr).add k = ⟨b, o + k, none⟩ := Addr.add_mid b o k

/-! ### elements of slices -/
def idxS (H : Heap) (s : V) (i : Int) (size : Nat) : Option V :=
  match s with
  | .d (.sl es) | .dx es => if 0 ≤ i then (match es[i.toNat]? with | some e => if e.length = size then some (.d (.pim e)) else none | none => none) else none
  | .ref id off len => if 0 ≤ i ∧ i < len then (match H id with | some (.arr _ n _) => if n = size then some (.ptr id (off + i.toNat) 0) else none | _ => none) else none
  | _ => none

theorem sl_elem {w : World} {Z : Nat → Prop} {es : List (List D)} {v : Value} {i : Nat} {e : List D} (h : RD w Z (.sl es) v) (he : es[i]? = some e) :
    ∃ b o cap, v = .slice (some ⟨b, o, none⟩) es.length cap ∧ es.length ≤ cap ∧ RD w Z (.pim e) (.pointer (some ⟨b, o + i * e.length, none⟩)) := by
  obtain ⟨A, cap, rfl, h1, h2, h3, h4⟩ := h
  have hi : i < es.length := (List.getElem?_eq_some_iff.1 he).1
  · obtain ⟨b, o, n, flat, rfl, hz, h5, h6, h7⟩ := h4 (fun e0 => by rw [e0] at hi; simp at hi)
    obtain ⟨c1, vs, c2, h8, h9, h10⟩ := RDe_get h6 h5 he
    have hn : e.length = n := h5 e (List.mem_of_getElem? he)
    rw [h8] at h7
    have := rangeAt_mid h7
    rw [h9] at this
    exact ⟨b, o, cap, rfl, h1, b, _, vs, by rw [hn], hz, h10, this⟩

theorem idxS_sound {E : Env} {H : Heap} {w : World} (ok : E.ok H w) {s r : V} {v : Value} {i : Int} {size : Nat} (h : RV E w s v) (hr : idxS H s i size = some r) :
    ∃ b o len cap, v = .slice (some ⟨b, o, none⟩) len cap ∧ 0 ≤ i ∧ i < len ∧ RV E w r (.pointer (some ⟨b, o + i.toNat * size, none⟩)) := by
  have key : ∀ es : List (List D), RD w E.Z (.sl es) v → (if 0 ≤ i then (match es[i.toNat]? with | some e => if e.length = size then some (V.d (.pim e)) else none | none => none) else none) = some r →
      ∃ b o len cap, v = .slice (some ⟨b, o, none⟩) len cap ∧ 0 ≤ i ∧ i < len ∧ RV E w r (.pointer (some ⟨b, o + i.toNat * size, none⟩)) := by
    intro es h hr
    split at hr
    · rename_i h0
      split at hr
      · rename_i e he
        split at hr
        · rename_i hs
          injection hr with hr
          subst hr; subst hs
          obtain ⟨b, o, cap, rfl, h1, h2⟩ := sl_elem h he
          have hi : i.toNat < es.length := (List.getElem?_eq_some_iff.1 he).1
          exact ⟨b, o, _, cap, rfl, h0, by omega, h2⟩
        · cases hr
      · cases hr
    · cases hr
  unfold idxS at hr
  split at hr
  · exact key _ h hr
  · exact key _ h.1 hr
  · rename_i id off len
    split at hr
    · rename_i hi
      split at hr
      · rename_i T n es hH
        split at hr
        · rename_i hs
          injection hr with hr
          subst hr; subst hs
          have hn := (ok.hold _ _ hH).1
          rcases h with ⟨_, _, hl, _⟩ | ⟨hnil, hcap, a, rfl, ha⟩
          · omega
          · have ha' := ha (.inr (by omega))
            refine ⟨_, a, len, _, rfl, hi.1, hi.2, hnil, ?_⟩
            rw [ha', hn, Nat.add_mul]
            simp [Nat.add_assoc]
        · cases hr
      · cases hr
    · cases hr
  · cases hr

/-! ### literals -/
def litOp (op : BinOp) (x y : Value) : Option Value :=
  match x, y with
  | .int k a, .int k' b => if k = k' then (match op with
      | .add => some (.int k (k.wrap (a + b)))
      | .sub => some (.int k (k.wrap (a - b)))
      | .mul => some (.int k (k.wrap (a * b)))
      | .quo => if b = 0 then none else some (.int k (k.wrap (a.tdiv b)))
      | .rem => if b = 0 then none else some (.int k (a.tmod b))
      | .eql => some (.bool (a == b))
      | .neq => some (.bool (a != b))
      | .lss => some (.bool (decide (a < b)))
      | .leq => some (.bool (decide (a ≤ b)))
      | .gtr => some (.bool (decide (a > b)))
      | .geq => some (.bool (decide (a ≥ b)))
      | _ => none) else none
  | .string a, .string b => match op with
      | .add => if ((a.size + b.size : Nat) : Int) > IntKind.i64.max then none else some (.string (a ++ b))
      | .eql => some (.bool (a.toList == b.toList))
      | .neq => some (.bool !(a.toList == b.toList))
      | .lss => some (.bool (Op.bytesLess a.toList b.toList))
      | .leq => some (.bool (Op.bytesLess a.toList b.toList || a.toList == b.toList))
      | .gtr => some (.bool !(Op.bytesLess a.toList b.toList || a.toList == b.toList))
      | .geq => some (.bool !(Op.bytesLess a.toList b.toList))
      | _ => none
  | _, _ => none

theorem litOp_sound {P : Program} {op : BinOp} {T : TypeId} {xo yo : Operand} {x y r : Value} (h : litOp op x y = some r) (w : World) :
    ((do eqGuard op T xo yo x y; binOp op T x y : Sem Value)).run P w = .ok r w ∧ plain r = true := by
  unfold litOp at h
  split at h
  · rename_i k a k' b
    split at h
    · rename_i hk
      subst hk
      cases op <;> simp only [Option.some.injEq, reduceCtorEq] at h
      case quo => split at h; · cases h
                  · rename_i hb; injection h with h; subst h; exact ⟨by simp [eqGuard, binOp, Op.intDiv, hb], rfl⟩
      case rem => split at h; · cases h
                  · rename_i hb; injection h with h; subst h; exact ⟨by simp [eqGuard, binOp, Op.intDiv, hb], rfl⟩
      all_goals (subst h; exact ⟨by simp [eqGuard, binOp, Op.intArith, Op.intCmp], rfl⟩)
    · cases h
  · rename_i a b
    cases op <;> simp only [Option.some.injEq, reduceCtorEq] at h
    case add => split at h; · cases h
                · rename_i hb; injection h with h; subst h; exact ⟨by simp only [eqGuard, binOp, Op.stringOp, hb, if_false]; simp, rfl⟩
    all_goals (subst h; exact ⟨by simp [eqGuard, binOp, Op.stringOp], rfl⟩)
  · cases h

/-- is a slice nil; a pointer; a map -/
def nilSl : V → Option Bool
  | .d (.lit (.slice none 0 0)) => some true
  | .d (.sl es) | .dx es => if es.isEmpty then none else some false
  | .ref _ _ len => if len = 0 then none else some false
  | _ => none
def nilPt : V → Option Bool
  | .d (.lit (.pointer none)) => some true
  | .ptr .. | .d (.pim _) => some false
  | _ => none
def nilMp : V → Option Bool
  | .d (.lit (.map none)) => some true
  | .mref _ => some false
  | _ => none

theorem nilSl_sound {E : Env} {w : World} {x : V} {v : Value} (h : RV E w x v) {b : Bool} (hb : nilSl x = some b) : ∃ A l c, v = .slice A l c ∧ A.isNone = b := by
  have key : ∀ es : List (List D), RD w E.Z (.sl es) v → ¬ es.isEmpty = true → ∃ A l c, v = .slice A l c ∧ A.isNone = false := by
    rintro es ⟨A, cap, rfl, h1, _, h3, _⟩ he
    refine ⟨A, _, _, rfl, ?_⟩
    cases A with
    | none => have := h3 rfl; exfalso; apply he; rw [List.isEmpty_iff]; exact List.eq_nil_of_length_eq_zero (by omega)
    | some a => rfl
  unfold nilSl at hb
  split at hb
  · injection hb with hb; subst hb; obtain ⟨rfl, _⟩ := h; exact ⟨_, _, _, rfl, rfl⟩
  · split at hb
    · cases hb
    · rename_i es he; injection hb with hb; subst hb; exact key _ h he
  · split at hb
    · cases hb
    · rename_i es he; injection hb with hb; subst hb; exact key _ h.1 he
  · split at hb
    · cases hb
    · rename_i hl; injection hb with hb; subst hb
      rcases h with ⟨_, _, h0, _⟩ | ⟨_, _, a, rfl, _⟩
      · exact absurd h0 hl
      · exact ⟨_, _, _, rfl, rfl⟩
  · cases hb
theorem nilPt_sound {E : Env} {w : World} {x : V} {v : Value} (h : RV E w x v) {b : Bool} (hb : nilPt x = some b) : ∃ A, v = .pointer A ∧ A.isNone = b := by
  unfold nilPt at hb
  split at hb
  · injection hb with hb; subst hb; obtain ⟨rfl, _⟩ := h; exact ⟨_, rfl, rfl⟩
  · injection hb with hb; subst hb; obtain ⟨_, rfl⟩ := h; exact ⟨_, rfl, rfl⟩
  · injection hb with hb; subst hb; obtain ⟨b, o, vs, rfl, _⟩ := h; exact ⟨_, rfl, rfl⟩
  · cases hb
theorem nilMp_sound {E : Env} {w : World} {x : V} {v : Value} (h : RV E w x v) {b : Bool} (hb : nilMp x = some b) : ∃ A, v = .map A ∧ A.isNone = b := by
  unfold nilMp at hb
  split at hb
  · injection hb with hb; subst hb; obtain ⟨rfl, _⟩ := h; exact ⟨_, rfl, rfl⟩
  · injection hb with hb; subst hb
    have h' : _ = _ := h
    subst h'
    exact ⟨_, rfl, rfl⟩
  · cases hb

/-- equality with nil: the literal on the right -/
def eqNil (d : TypeDesc) (x : V) (y : Value) : Option Bool :=
  match d, y with
  | .slice _, .slice none 0 0 => nilSl x
  | .pointer _, .pointer none => nilPt x
  | .map _ _, .map none => nilMp x
  | _, _ => none

theorem equal_of {P : Program} {T : TypeId} {x y : Value} {r : Bool} {w : World} (h : ∀ d, (Op.equalIn (d + 1) T x y).run P w = .ok r w) : (Op.equal T x y).run P w = .ok r w := h 9999

theorem run_eq_of {P : Program} {T : TypeId} {x y : Value} {r : Bool} {w : World} (h : (Op.equal T x y).run P w = .ok r w) (xo yo : Operand) (hg : (eqGuard .eql T xo yo x y).run P w = .ok () w ∧ (eqGuard .neq T xo yo x y).run P w = .ok () w)
    (hb : binOp .eql T x y = (do pure (.bool (← Op.equal T x y))) ∧ binOp .neq T x y = (do pure (.bool (!(← Op.equal T x y))))) :
    ((do eqGuard .eql T xo yo x y; binOp .eql T x y : Sem Value)).run P w = .ok (.bool r) w ∧ ((do eqGuard .neq T xo yo x y; binOp .neq T x y : Sem Value)).run P w = .ok (.bool !r) w := by
  rw [hb.1, hb.2]
  constructor
  · rw [Sem.run_bind, hg.1]; simp [h]
  · rw [Sem.run_bind, hg.2]; simp [h]

theorem eqNil_sound {P : Program} {E : Env} {w w' : World} {x : V} {v y : Value} {T : TypeId} {ti : TI} (ht : tyOf P T = some ti) (h : RV E w x v) {b : Bool} (hb : eqNil ti.desc x y = some b) (xo yo : Operand) :
    ((do eqGuard .eql T xo yo v y; binOp .eql T v y : Sem Value)).run P w' = .ok (.bool b) w' ∧ ((do eqGuard .neq T xo yo v y; binOp .neq T v y : Sem Value)).run P w' = .ok (.bool !b) w' := by
  have hu := run_und ht w'
  unfold eqNil at hb
  split at hb
  · rename_i e hd
    obtain ⟨A, l, c, rfl, rfl⟩ := nilSl_sound h hb
    rw [hd] at hu
    refine run_eq_of (equal_of fun d => ?_) xo yo ⟨rfl, rfl⟩ ⟨rfl, rfl⟩
    cases A <;> simp [Op.equalIn, hu]
  · rename_i e hd
    obtain ⟨A, rfl, rfl⟩ := nilPt_sound h hb
    rw [hd] at hu
    refine run_eq_of (equal_of fun d => ?_) xo yo ⟨rfl, rfl⟩ ⟨rfl, rfl⟩
    cases A <;> simp [Op.equalIn, hu]
  · rename_i e k hd
    obtain ⟨A, rfl, rfl⟩ := nilMp_sound h hb
    rw [hd] at hu
    refine run_eq_of (equal_of fun d => ?_) xo yo ⟨rfl, rfl⟩ ⟨rfl, rfl⟩
    cases A <;> simp [Op.equalIn, hu]
  · cases hb

/-- equality of truth values -/
theorem eqBool_sound {P : Program} {w' : World} {T : TypeId} {ti : TI} (ht : tyOf P T = some ti) (hd : ti.desc = .bool) (a b : Bool) (xo yo : Operand) :
    ((do eqGuard .eql T xo yo (.bool a) (.bool b); binOp .eql T (.bool a) (.bool b) : Sem Value)).run P w' = .ok (.bool (a == b)) w' ∧ ((do eqGuard .neq T xo yo (.bool a) (.bool b); binOp .neq T (.bool a) (.bool b) : Sem Value)).run P w' = .ok (.bool !(a == b)) w' := by
  have hu := run_und ht w'
  rw [hd] at hu
  refine run_eq_of (equal_of fun d => ?_) xo yo ⟨rfl, rfl⟩ ⟨rfl, rfl⟩
  simp [Op.equalIn, hu]

/-! ### slices of slices -/
def bnd (x : Option V) (dflt hi : Nat) : Option Nat :=
  match x with
  | none => some dflt
  | some (.d (.lit (.int _ i))) => if 0 ≤ i ∧ i ≤ hi then some i.toNat else none
  | some _ => none

def sliceStr (b : ByteArray) (lo hi mx : Option V) : Option V := if mx.isSome then none else
      (bnd hi b.size b.size).bind fun h => (bnd lo 0 h).bind fun l => some (.d (.lit (.string (b.extract l h))))
def sliceSl (es : List (List D)) (lo hi mx : Option V) : Option V :=
  match mx with
  | none => (bnd hi es.length es.length).bind fun h => (bnd lo 0 h).bind fun l => some (.d (.sl ((es.take h).drop l)))
  | some m => if hi.isNone then none else (bnd (some m) 0 es.length).bind fun m => (bnd hi 0 m).bind fun h => (bnd lo 0 h).bind fun l => if h = m then some (.dx ((es.take h).drop l)) else some (.d (.sl ((es.take h).drop l)))
def sliceRef (id off len : Nat) (lo hi mx : Option V) : Option V := if mx.isSome then none else
      (bnd hi len len).bind fun h => (bnd lo 0 h).bind fun l => some (.ref id (off + l) (h - l))

theorem bnd_none {dflt hi n : Nat} (h : bnd none dflt hi = some n) : n = dflt := by injection h with h; exact h.symm
theorem bnd_some {P : Program} {E : Env} {w w' : World} {c : V} {u : Value} (hu : RV E w c u) {dflt hi n : Nat} (hb : bnd (some c) dflt hi = some n) {top : Nat} (ht : hi ≤ top) (code : BoundsCode) :
    (Instr.sliceBound u top code).run P w' = .ok n w' ∧ n ≤ hi := by
  unfold bnd at hb
  split at hb
  · rename_i h0; cases h0
  · rename_i k i h0
    injection h0 with h0
    subst h0
    obtain ⟨rfl, _⟩ := hu
    split at hb
    · rename_i hi'
      injection hb with hb
      subst hb
      refine ⟨?_, by omega⟩
      have h1 : 0 ≤ i ∧ i ≤ (top : Int) := by omega
      simp [Instr.sliceBound, asIntOf, h1]
    · cases hb
  · cases hb

theorem RDe_take {w : World} {Z : Nat → Prop} {n : Nat} : ∀ {es : List (List D)} {flat : List Value} (k : Nat), RDe w Z es flat → (∀ e ∈ es, e.length = n) → RDe w Z (es.take k) (flat.take (k * n))
  | [], _, k, h, _ => by
    have : _ = [] := h
    subst this
    simp [RDe]
  | x :: es, _, 0, h, _ => by simp [RDe]
  | x :: es, _, k + 1, ⟨a, r, h, h1, h2⟩, hn => by
    subst h
    have hl : a.length = n := by rw [RDs_length h1, hn x (.head _)]
    refine ⟨a, r.take (k * n), ?_, h1, RDe_take k h2 (fun e he => hn e (.tail _ he))⟩
    rw [Nat.add_mul, Nat.one_mul, Nat.add_comm, ← hl, List.take_length_add_append]
theorem RDe_drop {w : World} {Z : Nat → Prop} {n : Nat} : ∀ {es : List (List D)} {flat : List Value} (k : Nat), RDe w Z es flat → (∀ e ∈ es, e.length = n) → RDe w Z (es.drop k) (flat.drop (k * n))
  | [], _, k, h, _ => by
    have : _ = [] := h
    subst this
    simp [RDe]
  | x :: es, _, 0, h, _ => by simpa using h
  | x :: es, _, k + 1, ⟨a, r, h, h1, h2⟩, hn => by
    subst h
    have hl : a.length = n := by rw [RDs_length h1, hn x (.head _)]
    have e : (a ++ r).drop ((k + 1) * n) = r.drop (k * n) := by
      rw [Nat.add_mul, Nat.one_mul, Nat.add_comm (k * n), ← List.drop_drop, ← hl, List.drop_left]
    rw [e]
    exact RDe_drop k h2 (fun e he => hn e (.tail _ he))

/-- a part of a slice -/
theorem sl_part {w : World} {Z : Nat → Prop} {es : List (List D)} {A : Option Addr} {len cap : Nat} (h : RD w Z (.sl es) (.slice A len cap)) {size : Nat} (hs : ∀ e ∈ es, e.length = size) {l k m : Nat} (hlk : l ≤ k) (hk : k ≤ es.length) (hkm : k ≤ m) (hm : m ≤ cap) :
    RD w Z (.sl ((es.take k).drop l)) (.slice (if m = l then A else A.map (·.add (l * size))) (k - l) (m - l)) := by
  obtain ⟨A', cap', hv, h1, h2, h3, h4⟩ := h
  injection hv with e1 e2 e3
  subst e1; subst e2; subst e3
  have hl : ((es.take k).drop l).length = k - l := by rw [List.length_drop, List.length_take, Nat.min_eq_left hk]
  refine ⟨_, m - l, by rw [hl], by rw [hl]; omega, by omega, fun hn => ?_, fun hne => ?_⟩
  · have : A = none := by
      by_cases hml : m = l
      · rw [if_pos hml] at hn; exact hn
      · rw [if_neg hml] at hn; simpa using hn
    have := h3 this; omega
  · have hlt : 0 < ((es.take k).drop l).length := List.length_pos_iff.2 hne
    have hes : es ≠ [] := fun e => by rw [e] at hlt; simp at hlt
    obtain ⟨b, o, n, flat, rfl, hz, h5, h6, h7⟩ := h4 hes
    have hp : RDe w Z ((es.take k).drop l) ((flat.take (k * n)).drop (l * n)) := RDe_drop l (RDe_take k h6 h5) (fun e he => h5 e (List.mem_of_mem_take he))
    have hr := rangeAt_drop (rangeAt_take h7 (k * n)) (l * n)
    have hml : ¬ m = l := by omega
    rw [if_neg hml]
    obtain ⟨e0, he⟩ : ∃ e0, e0 ∈ es := by cases es with | nil => exact absurd rfl hes | cons x r => exact ⟨x, .head _⟩
    have hn : n = size := by rw [← h5 e0 he, hs e0 he]
    subst hn
    exact ⟨b, o + l * n, n, _, by simp [add_addr], hz, fun e he => h5 e (List.mem_of_mem_take (List.mem_of_mem_drop he)), hp, hr⟩

end Go.Ab
