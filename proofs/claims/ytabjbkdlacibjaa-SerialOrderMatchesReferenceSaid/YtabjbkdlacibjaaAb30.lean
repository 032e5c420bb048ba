/- The abstract machine: regions that draw their order, with effects: a state for each set of operations that have come up. -/
import Derived.Test.YtabjbkdlacibjaaAb29
import Derived.Orders
namespace Go.Ab
open Go.RowKit

/-- operation i waits for operation j -/
def waitsB (ops : Array Oper) (i j : Nat) : Bool := match ops[i]? with
  | some o => o.after.any fun e => Region.binds .any e && e.on == j
  | none => false
def ancB (ops : Array Oper) (anc : List (List Nat)) : Bool :=
  ((List.range ops.size).all fun i => (List.range ops.size).all fun j => !waitsB ops i j || decide (j < i)) && (ops.all fun o => o.after.all fun e => decide (e.on < ops.size)) &&
  (List.range ops.size).all fun i => (anc.getD i []).all fun j => waitsB ops i j || (List.range ops.size).any fun k => waitsB ops i k && (anc.getD k []).contains j

def mb (b : Bool) (v : V) : V := if b then v else .junk
def mk? (b : Bool) (k : Option Blk) : Option Blk := if b then k else none
theorem mb_true (v : V) : mb true v = v := rfl
theorem mb_false (v : V) : mb false v = .junk := rfl
def updB (b : Nat → Bool) (i : Nat) : Nat → Bool := fun j => if j = i then true else b j

theorem Oper.wp_other {P : Program} {o : Oper} {a : Act} {w : World} {K : Act → World → Prop} {Q Q' : Exit → Act → World → Prop} (hq : ∀ e a w, e ≠ .normal → Q e a w → Q' e a w)
    (h : o.wp P a w K Q) : o.wp P a w K Q' := by
  unfold Oper.wp at *
  generalize (execOp a.eval o).run P w = r at *
  cases r with
  | ok n w' =>
    cases n <;> simp only [Oper.upon] at h ⊢ <;>
      first
        | exact h
        | exact Calls.mono h (fun e w'' he => by
            cases e with
            | returned v => exact he
            | panicked c => exact hq _ _ _ (by simp) he
            | outgrown =>
              obtain ⟨a, w, he⟩ := (he : LetsOut Q)
              exact (⟨a, w, hq _ _ _ (by simp) he⟩ : LetsOut Q'))
  | halt x w' => cases x <;> simp only [Oper.upon] at h ⊢ <;> first | exact h | exact hq _ _ _ (by simp) h

def atN (K : Act → World → Prop) (Q : Exit → Act → World → Prop) : Exit → Act → World → Prop
  | .normal, a, w => K a w
  | .exit i, a, w => Q (.exit i) a w
  | .goto i, a, w => Q (.goto i) a w
  | .ret, a, w => Q .ret a w
  | .panic c, a, w => Q (.panic c) a w
  | .outgrown, a, w => Q .outgrown a w
theorem atN_other {K : Act → World → Prop} {Q : Exit → Act → World → Prop} {e : Exit} {a : Act} {w : World} (he : e ≠ .normal) (h : atN K Q e a w) : Q e a w := by
  cases e with
  | normal => exact absurd rfl he
  | _ => exact h

theorem ready_mem {ops : Array Oper} {listed : Array Bool} {i : Nat} (hi : i ∈ Region.ready .any ops listed) : i < ops.size ∧ listed.getD i true = false ∧ ∃ o, ops[i]? = some o ∧ ∀ j, waitsB ops i j = true → listed.getD j false = true := by
  unfold Region.ready at hi
  rw [List.mem_filter] at hi
  obtain ⟨h1, h2⟩ := hi
  have hlt := List.mem_range.1 h1
  rw [Bool.and_eq_true] at h2
  obtain ⟨h2, h3⟩ := h2
  refine ⟨hlt, by simpa using h2, ops[i], Array.getElem?_eq_getElem hlt, fun j hj => ?_⟩
  rw [Array.getElem?_eq_getElem hlt] at h3
  unfold waitsB at hj
  rw [Array.getElem?_eq_getElem hlt] at hj
  simp only [Option.map_some, Option.getD_some, Array.all_eq_true_iff_forall_mem] at h3
  simp only [Array.any_eq_true'] at hj
  obtain ⟨e, he, hb⟩ := hj
  rw [Bool.and_eq_true, beq_iff_eq] at hb
  have := h3 e he
  rw [hb.1] at this
  simp at this
  rw [← hb.2]
  simpa using this

theorem getD_set {listed : Array Bool} {i j : Nat} (hi : i < listed.size) : (listed.setIfInBounds i true).getD j false = if j = i then true else listed.getD j false := by
  by_cases h : j = i
  · subst h
    simp [Array.getD, hi]
  · rw [if_neg h]
    by_cases hj : j < listed.size
    · have : ¬ i = j := fun e => h e.symm
      simp [Array.getD, hj, Array.getElem_setIfInBounds, this]
    · simp [Array.getD, hj]

theorem AW.regionAny {P : Program} {S : St} {Q : Exit → St → Prop} {id : Nat} {l : List Oper} (anc : List (List Nat)) (I : (Nat → Bool) → St) (hm : P.follows .mixedOrders = true) (hA : ancB l.toArray anc = true)
    (h0 : Sub S (I fun _ => false))
    (hstep : ∀ i o, l.toArray[i]? = some o → ∀ b : Nat → Bool, b i = false → (∀ j, j ∈ anc.getD i [] → b j = true) → (∀ k, i ∈ anc.getD k [] → b k = false) → Chain false P l.toArray [o] (I b) (fun S' => Sub S' (I (updB b i))))
    (hend : ∀ b : Nat → Bool, (∀ i, i < l.length → b i = true) → ∃ S1, Sub (I b) S1 ∧ Q .normal S1) : AW P (.region id l.toArray true) S Q := by
  intro fx a w hM
  refine wp_region_any hm ?_
  have hM' : Models fx S a { w with drawn := w.drawn + 1 } := by
    obtain ⟨E, m⟩ := hM
    exact ⟨E, m.grow ⟨rfl, rfl, rfl, Nat.le_refl _, fun _ _ => rfl⟩⟩
  have hback : ∀ i j, i < l.toArray.size → waitsB l.toArray i j = true → j < i := fun i j hi hw => by
    unfold ancB at hA
    simp only [Bool.and_eq_true, List.all_eq_true, List.mem_range] at hA
    have hj : j < l.toArray.size := by
      unfold waitsB at hw
      rw [Array.getElem?_eq_getElem hi] at hw
      simp only [Array.any_eq_true'] at hw
      obtain ⟨e, he, hb⟩ := hw
      rw [Bool.and_eq_true, beq_iff_eq] at hb
      have h2 := hA.1.2
      rw [Array.all_eq_true_iff_forall_mem] at h2
      have h3 := h2 _ (Array.getElem_mem hi)
      rw [Array.all_eq_true_iff_forall_mem] at h3
      have := h3 e he
      rw [← hb.2]
      exact of_decide_eq_true this
    have := hA.1.1 i hi j hj
    rw [hw] at this
    simpa using this
  have hclos : ∀ i j, i < l.toArray.size → j ∈ anc.getD i [] → waitsB l.toArray i j = true ∨ ∃ k, waitsB l.toArray i k = true ∧ j ∈ anc.getD k [] := fun i j hi hj => by
    unfold ancB at hA
    simp only [Bool.and_eq_true, List.all_eq_true, List.mem_range] at hA
    have := hA.2 i hi j hj
    rw [Bool.or_eq_true, List.any_eq_true] at this
    rcases this with h | ⟨k, _, h⟩
    · exact .inl h
    · rw [Bool.and_eq_true] at h
      exact .inr ⟨k, h.1, by simpa using h.2⟩
  have key : ∀ (n : Nat) (listed : Array Bool) (a : Act) (w : World), listed.size = l.toArray.size → (listed.toList.countP (· = false)) = n → (∀ i, listed.getD i false = true → ∀ j ∈ anc.getD i [], listed.getD j false = true) → Models fx (I fun j => listed.getD j false) a w →
      wpAny P .any l.toArray (fun e a' w' => ∃ S', Q e S' ∧ Models fx S' a' w') n listed a w := by
    intro n
    induction n with
    | zero =>
      intro listed a w hs hn hinv hM
      have hall : ∀ i, i < l.length → listed.getD i false = true := fun i hi => by
        have hi' : i < listed.size := by rw [hs]; simpa using hi
        rw [List.countP_eq_zero] at hn
        have := hn listed[i] (by simp)
        simpa [Array.getD, hi'] using this
      have hready : Region.ready .any l.toArray listed = [] := by
        rw [List.eq_nil_iff_forall_not_mem]
        intro i hi
        obtain ⟨h1, h2, _⟩ := ready_mem hi
        have h3 := hall i (by simpa using h1)
        have hi' : i < listed.size := by rw [hs]; exact h1
        simp [Array.getD, hi'] at h2 h3
        rw [h2] at h3; cases h3
      refine ⟨hready, ?_⟩
      obtain ⟨S1, hs1, hq⟩ := hend _ hall
      exact ⟨S1, hq, hs1 _ _ _ hM⟩
    | succ n ih =>
      intro listed a w hs hn hinv hM
      refine ⟨fun hnil => ?_, fun i hi => ?_⟩
      · exfalso
        have hex : ∃ i, i < listed.size ∧ listed.getD i true = false := by
          have : 0 < listed.toList.countP (· = false) := by omega
          rw [List.countP_pos_iff] at this
          obtain ⟨x, hx, hxf⟩ := this
          obtain ⟨i, hi, rfl⟩ := List.getElem_of_mem hx
          have hi' : i < listed.size := by simpa using hi
          exact ⟨i, hi', by simpa [Array.getD, hi'] using hxf⟩
        obtain ⟨i, ⟨hi1, hi2⟩, hleast⟩ := exists_least _ hex
        have : i ∈ Region.ready .any l.toArray listed := by
          unfold Region.ready
          rw [List.mem_filter]
          have hlt : i < l.toArray.size := by rw [← hs]; exact hi1
          refine ⟨List.mem_range.2 hlt, ?_⟩
          rw [hi2, Array.getElem?_eq_getElem hlt]
          simp only [Bool.not_false, Bool.true_and, Option.map_some, Option.getD_some, Array.all_eq_true_iff_forall_mem]
          intro e he
          cases hb : Region.binds .any e with
          | false => rfl
          | true =>
            have hwt : waitsB l.toArray i e.on = true := by
              unfold waitsB
              rw [Array.getElem?_eq_getElem hlt]
              simp only [Array.any_eq_true']
              exact ⟨e, he, by simp [hb]⟩
            have hon : e.on < i := hback i e.on hlt hwt
            have hon2 : e.on < listed.size := by omega
            cases hl : listed.getD e.on true with
            | false => exact absurd (hleast e.on ⟨hon2, hl⟩) (by omega)
            | true => simpa [Array.getD, hon2] using hl
        rw [hnil] at this
        cases this
      · obtain ⟨hlt, hun, o, ho, hw⟩ := ready_mem hi
        have hi' : i < listed.size := by rw [hs]; exact hlt
        have hbi : listed.getD i false = false := by simp [Array.getD, hi'] at hun ⊢; exact hun
        have hanc : ∀ j, j ∈ anc.getD i [] → listed.getD j false = true := fun j hj => by
          rcases hclos i j hlt hj with h | ⟨k, h1, h2⟩
          · exact hw j h
          · exact hinv k (hw k h1) j h2
        have hdesc : ∀ k, i ∈ anc.getD k [] → listed.getD k false = false := fun k hk => by
          cases hlk : listed.getD k false with
          | false => rfl
          | true => rw [hinv k hlk i hk] at hbi; cases hbi
        have hch := hstep i o ho (fun j => listed.getD j false) hbi hanc hdesc fx a w
          (atN (wpAny P .any l.toArray (fun e a' w' => ∃ S', Q e S' ∧ Models fx S' a' w') n (listed.setIfInBounds i true)) (fun e a' w' => ∃ S', Q e S' ∧ Models fx S' a' w')) hM (fun S' a' w' hsub hM' => by
            show wpAny P .any l.toArray (fun e a' w' => ∃ S', Q e S' ∧ Models fx S' a' w') n (listed.setIfInBounds i true) a' w'
            refine ih _ _ _ (by simpa using hs) ?_ ?_ ?_
            · have : (listed.setIfInBounds i true).toList = listed.toList.set i true := by simp
              have hv : listed.toList[i]'(by simpa using hi') = false := by simpa [Array.getD, hi'] using hbi
              rw [this, List.countP_set (by simpa using hi'), hv, if_pos (by decide), if_neg (by decide)]
              omega
            · intro k hk j hj
              rw [getD_set hi'] at hk ⊢
              by_cases hki : k = i
              · subst hki
                have := hanc j hj
                split
                · rfl
                · exact this
              · rw [if_neg hki] at hk
                split
                · rfl
                · exact hinv k hk j hj
            · have he : (fun j => (listed.setIfInBounds i true).getD j false) = updB (fun j => listed.getD j false) i := by
                funext j
                rw [getD_set hi']; rfl
              rw [he]
              exact hsub _ _ _ hM')
        unfold wpOp
        simp only [ho]
        unfold wpList at hch
        by_cases hwt : Region.wanted o (yielded l.toArray a.tmps) = true
        · rw [if_pos hwt] at hch ⊢
          rcases hch with hch | ⟨h1, a1, w1, h2⟩
          · exact .inl (Oper.wp_other (fun e a w he h => atN_other he h) (Oper.wp_mono (fun a w h => h) hch))
          · exact .inr ⟨h1, a1, w1, h2⟩
        · rw [if_neg hwt] at hch ⊢
          exact hch
  refine key (l.toArray.size) (Array.replicate l.toArray.size false) a _ (by simp) (by rw [Array.toList_replicate, List.countP_replicate, if_pos (by decide)]) (fun i hi => ?_) ?_
  · simp [Array.getD] at hi
  · have : (fun j => (Array.replicate l.toArray.size false).getD j false) = fun _ => false := by
      funext j
      simp [Array.getD]
    rw [this]
    exact h0 _ _ _ hM'
theorem AW.seqAny {P : Program} {S : St} {Q : Exit → St → Prop} {id : Nat} {l : List Oper} {y : Code} (anc : List (List Nat)) (I : (Nat → Bool) → St) (S1 : St) (hm : P.follows .mixedOrders = true) (hA : ancB l.toArray anc = true)
    (h0 : Sub S (I fun _ => false))
    (hstep : ∀ i o, l.toArray[i]? = some o → ∀ b : Nat → Bool, b i = false → (∀ j, j ∈ anc.getD i [] → b j = true) → (∀ k, i ∈ anc.getD k [] → b k = false) → Chain false P l.toArray [o] (I b) (fun S' => Sub S' (I (updB b i))))
    (hend : ∀ b : Nat → Bool, (∀ i, i < l.length → b i = true) → Sub (I b) S1) (hy : AW P y S1 Q) : AW P (.seq (.region id l.toArray true) y) S Q :=
  .seq (.regionAny anc I hm hA h0 hstep fun b hb => ⟨S1, hend b hb, hy⟩)
/-- the steps, one after another -/
def Steps (P : Program) (ops : Array Oper) (anc : List (List Nat)) (I : (Nat → Bool) → St) : Nat → List Oper → Prop
  | _, [] => True
  | i, o :: l => (∀ b : Nat → Bool, b i = false → (∀ j, j ∈ anc.getD i [] → b j = true) → (∀ k, i ∈ anc.getD k [] → b k = false) → Chain false P ops [o] (I b) (fun S' => Sub S' (I (updB b i)))) ∧ Steps P ops anc I (i + 1) l
theorem Steps.nil {P : Program} {ops : Array Oper} {anc : List (List Nat)} {I : (Nat → Bool) → St} {i : Nat} : Steps P ops anc I i [] := trivial
theorem Steps.cons {P : Program} {ops : Array Oper} {anc : List (List Nat)} {I : (Nat → Bool) → St} {i : Nat} {o : Oper} {l : List Oper}
    (h : ∀ b : Nat → Bool, b i = false → (∀ j, j ∈ anc.getD i [] → b j = true) → (∀ k, i ∈ anc.getD k [] → b k = false) → Chain false P ops [o] (I b) (fun S' => Sub S' (I (updB b i)))) (h2 : Steps P ops anc I (i + 1) l) : Steps P ops anc I i (o :: l) := ⟨h, h2⟩
theorem Steps.get {P : Program} {ops : Array Oper} {anc : List (List Nat)} {I : (Nat → Bool) → St} : ∀ {l : List Oper} {k : Nat}, Steps P ops anc I k l → ∀ i o, l[i]? = some o → ∀ b : Nat → Bool, b (k + i) = false → (∀ j, j ∈ anc.getD (k + i) [] → b j = true) → (∀ q, (k + i) ∈ anc.getD q [] → b q = false) → Chain false P ops [o] (I b) (fun S' => Sub S' (I (updB b (k + i))))
  | [], _, _, i, o, h => by simp at h
  | x :: l, k, hs, 0, o, h => by
    simp at h; subst h
    exact hs.1
  | x :: l, k, hs, i + 1, o, h => by
    have := hs.2.get i o (by simpa using h)
    rw [show k + (i + 1) = k + 1 + i by omega]
    exact this
theorem AW.seqAnyS {P : Program} {S : St} {Q : Exit → St → Prop} {id : Nat} {l : List Oper} {y : Code} (anc : List (List Nat)) (I : (Nat → Bool) → St) (S1 : St) (hm : P.follows .mixedOrders = true) (hA : ancB l.toArray anc = true)
    (h0 : Sub S (I fun _ => false)) (hstep : Steps P l.toArray anc I 0 l)
    (hend : ∀ b : Nat → Bool, (∀ i, i < l.length → b i = true) → Sub (I b) S1) (hy : AW P y S1 Q) : AW P (.seq (.region id l.toArray true) y) S Q :=
  .seqAny anc I S1 hm hA h0 (fun i o ho => by have := hstep.get i o (by simpa using ho); rw [Nat.zero_add] at this; exact this) hend hy
theorem AW.lastAnyS {P : Program} {S : St} {Q : Exit → St → Prop} {id : Nat} {l : List Oper} (anc : List (List Nat)) (I : (Nat → Bool) → St) (S1 : St) (hm : P.follows .mixedOrders = true) (hA : ancB l.toArray anc = true)
    (h0 : Sub S (I fun _ => false)) (hstep : Steps P l.toArray anc I 0 l)
    (hend : ∀ b : Nat → Bool, (∀ i, i < l.length → b i = true) → Sub (I b) S1) (hy : Q .normal S1) : AW P (.region id l.toArray true) S Q :=
  .regionAny anc I hm hA h0 (fun i o ho => by have := hstep.get i o (by simpa using ho); rw [Nat.zero_add] at this; exact this) fun b hb => ⟨S1, hend b hb, hy⟩
@[simp] theorem has_ite {c : Prop} [Decidable c] {x y : V} {id : Nat} : (if c then x else y).has id = if c then x.has id else y.has id := by split <;> rfl
@[simp] theorem killB_ite {c : Prop} [Decidable c] {x y : Option Blk} {id : Nat} : killB id (if c then x else y) = if c then killB id x else killB id y := by split <;> rfl
attribute [simp] mb mk? updB
end Go.Ab
