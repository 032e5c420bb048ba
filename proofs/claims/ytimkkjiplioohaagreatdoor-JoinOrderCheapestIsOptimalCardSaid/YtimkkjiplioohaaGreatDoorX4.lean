/- The abstract machine: a drawn region whose effects are barriers. The abstract machine: a drawn region whose effects are barriers, and whose last operations (calls among them) only look. -/
import Derived.Test.YtimkkjiplioohaaGreatDoorX3
import Derived.Test.YtimkkjiplioohaaGreatDoorA4
section
namespace Go.Ab
open Go.Xm

section
variable {P : Program} {ops : Array Oper}

theorem nq_step {o : Oper} {a : Act} {w : World} {K K' : Act → World → Prop} {Q Q' : Act → World → Prop} (hK : ∀ a w, K a w → K' a w)
    (h : o.wp P a w K (NQ Q) ∨ (o.asks P a w ∧ LetsOut (NQ Q))) : o.wp P a w K' (NQ Q') ∨ (o.asks P a w ∧ LetsOut (NQ Q')) := by
  rcases h with h | ⟨_, a0, w0, h0, _⟩
  · refine .inl ?_
    unfold Oper.wp at *
    generalize (execOp a.eval o).run P w = r at *
    cases r with
    | ok n w' =>
      cases n <;> simp only [Oper.upon] at h ⊢
      case value u => exact hK _ _ h
      case skip => exact hK _ _ h
      case defer d => exact hK _ _ h
      case enter f args =>
        refine Calls.mono h fun e w'' he => ?_
        cases e with
        | returned u => exact hK _ _ he
        | panicked c => cases he.1
        | outgrown => obtain ⟨_, _, h0, _⟩ := he; cases h0
      case row row args => exact Rows.mono h fun u w'' he => hK _ _ he
    | halt x w' =>
      cases x <;> simp only [Oper.upon] at h ⊢
      case panic u => cases h.1
  · cases h0

/-- in order: where there is no barrier, one value and the world as it was -/
def wpMix (P : Program) (ops : Array Oper) (bar : Nat → Bool) (Q : Act → World → Prop) : List Oper → Nat → Act → World → Prop
  | [], _, a, w => Q a w
  | o :: l, i, a, w => match bar i with
    | true => if Region.wanted o (yielded ops a.tmps) then o.wp P a w (wpMix P ops bar Q l (i + 1)) (NQ Q) ∨ (o.asks P a w ∧ LetsOut (NQ Q)) else wpMix P ops bar Q l (i + 1) (a.put o.dst undef) w
    | false => ∃ v, YieldsIf P ops (fun w' => w' = w) o v a ∧ wpMix P ops bar Q l (i + 1) (a.put o.dst v) w

/-- the first i are listed -/
def preL (n : Nat) : Nat → Array Bool
  | 0 => Array.replicate n false
  | i + 1 => (preL n i).setIfInBounds i true
theorem preL_size (n : Nat) : ∀ i, (preL n i).size = n
  | 0 => by simp [preL]
  | i + 1 => by simp [preL, preL_size n i]
theorem preL_get (n : Nat) : ∀ i j, j < n → (preL n i).getD j true = decide (j < i) ∧ (preL n i).getD j false = decide (j < i)
  | 0, j, hj => by simp [preL, hj]
  | i + 1, j, hj => by
    obtain ⟨h1, h2⟩ := preL_get n i j hj
    unfold preL
    by_cases e : i = j
    · subst e
      have : i < (preL n i).size := by rw [preL_size]; exact hj
      simp [this]
    · rw [getD_set_ne true e, getD_set_ne false e, h1, h2]
      have : (j < i) ↔ (j < i + 1) := by omega
      simp [this]

/-- the looks at the text of a region -/
def barB (ops : Array Oper) (bar : Nat → Bool) : Bool :=
  Region.noSelect ops && (List.range ops.size).all fun i =>
    (match ops[i]? with
    | some o => o.after.toList.all fun e => !(Region.binds .any e) || Nat.blt e.on i
    | none => false) &&
    (match bar i with
    | true => (List.range ops.size).all fun j => Nat.beq j i || (match Nat.blt j i with
      | true => reachX ops ops.size i j
      | false => reachX ops ops.size j i)
    | false => Region.free .any ops (preL ops.size i) i)
structure BarOK (ops : Array Oper) (bar : Nat → Bool) : Prop where
  sel : Region.noSelect ops = true
  back : ∀ i o, ops[i]? = some o → ∀ e ∈ o.after, Region.binds .any e = true → e.on < i
  brs : ∀ i, i < ops.size → bar i = true → ∀ j, j < ops.size → j ≠ i → (j < i → reachX ops ops.size i j = true) ∧ (i < j → reachX ops ops.size j i = true)
  free : ∀ i, i < ops.size → bar i = false → Region.free .any ops (preL ops.size i) i = true
theorem barB_ok {bar : Nat → Bool} (h : barB ops bar = true) : BarOK ops bar := by
  unfold barB at h
  rw [Bool.and_eq_true, List.all_eq_true] at h
  obtain ⟨h1, h2⟩ := h
  refine ⟨h1, fun i o ho e he hb => ?_, fun i hi hbar j hj hji => ?_, fun i hi hbar => ?_⟩
  · have h3 := h2 i (List.mem_range.2 (Array.getElem?_eq_some_iff.1 ho).1)
    rw [Bool.and_eq_true] at h3
    have h4 := h3.1
    rw [ho] at h4
    have := List.all_eq_true.1 h4 e (Array.mem_toList_iff.2 he)
    rw [hb] at this
    exact blt_iff.1 (by simpa using this)
  · have h3 := h2 i (List.mem_range.2 hi)
    rw [Bool.and_eq_true] at h3
    have h4 := h3.2
    rw [hbar] at h4
    have h5 := List.all_eq_true.1 h4 j (List.mem_range.2 hj)
    rw [Bool.or_eq_true] at h5
    rcases h5 with h5 | h5
    · exact absurd (Nat.eq_of_beq_eq_true h5) hji
    · constructor
      · intro hlt
        rw [blt_iff.2 hlt] at h5
        exact h5
      · intro hlt
        have : Nat.blt j i = false := by
          cases hq : Nat.blt j i with
          | false => rfl
          | true => exact absurd (blt_iff.1 hq) (by omega)
        rw [this] at h5
        exact h5
  · have h3 := h2 i (List.mem_range.2 hi)
    rw [Bool.and_eq_true] at h3
    have h4 := h3.2
    rw [hbar] at h4
    exact h4

theorem preL_wtd {bar : Nat → Bool} (hB : BarOK ops bar) (i : Nat) : Wtd ops (preL ops.size i) := by
  refine ⟨preL_size _ _, fun t o ho ht e he hb => ?_⟩
  have hlt := (Array.getElem?_eq_some_iff.1 ho).1
  rw [(preL_get _ i t hlt).2, decide_eq_true_eq] at ht
  have hon := hB.back t o ho e he hb
  rw [(preL_get _ i e.on (by omega)).2, decide_eq_true_eq]
  omega
theorem preL_ready {bar : Nat → Bool} (hB : BarOK ops bar) {i : Nat} {o : Oper} (ho : ops[i]? = some o) : i ∈ Region.ready .any ops (preL ops.size i) := by
  have hlt := (Array.getElem?_eq_some_iff.1 ho).1
  refine mem_ready.2 ⟨by rw [(preL_get _ i i hlt).1]; simp, o, ho, fun e he hb => ?_⟩
  have hon := hB.back i o ho e he hb
  rw [(preL_get _ i e.on (by omega)).2]; simp [hon]
theorem ready_lt {listed : Array Bool} {j : Nat} (hj : j ∈ Region.ready .any ops listed) : j < ops.size := by
  obtain ⟨_, o, ho, _⟩ := mem_ready.1 hj
  exact (Array.getElem?_eq_some_iff.1 ho).1

/-- no barrier from i on is listed -/
def NoBar (bar : Nat → Bool) (i : Nat) (listed : Array Bool) : Prop := ∀ t, i ≤ t → bar t = true → listed.getD t false = false
def SB (bar : Nat → Bool) (i : Nat) (w : World) (listed : Array Bool) (w' : World) : Prop := NoBar bar i listed → w' = w

theorem wpAnyS_weaken {Q : Exit → Act → World → Prop} {S1 S2 : Array Bool → World → Prop} {k : Nat} (hS : ∀ listed w, listed.getD k false = true → S2 listed w) : ∀ (fuel : Nat) (listed : Array Bool) (a : Act) (w : World), listed.getD k false = true → Xm.wpAnyS P .any ops Q S1 fuel listed a w → Xm.wpAnyS P .any ops Q S2 fuel listed a w
  | 0, _, _, _, _, h => h
  | fuel + 1, _listed, _a, _w, hk, h => ⟨h.1, fun i hi => wpOp_mono (fun a' w' h' => ⟨hS _ _ (getD_set_true hk), wpAnyS_weaken hS fuel _ a' w' (getD_set_true hk) h'.2⟩) (h.2 i hi)⟩

theorem wpMix_any {bar : Nat → Bool} (hB : BarOK ops bar) {Q : Act → World → Prop} : ∀ (l : List Oper) (i : Nat) (a : Act) (w : World), ops.toList.drop i = l → wpMix P ops bar Q l i a w → Xm.wpAnyS P .any ops (NQ Q) (SB bar i w) l.length (preL ops.size i) a w
  | [], i, a, w, hd, h => by
    have hge : ops.size ≤ i := by
      have := congrArg List.length hd
      simp at this; omega
    refine ⟨?_, rfl, h⟩
    refine List.eq_nil_iff_forall_not_mem.2 fun j hj => ?_
    have hlt := ready_lt hj
    have := (mem_ready.1 hj).1
    rw [(preL_get _ i j hlt).1, decide_eq_false_iff_not] at this
    omega
  | o :: l, i, a, w, hd, h => by
    have hi : i < ops.size := by
      have := congrArg List.length hd
      simp at this; omega
    have ho : ops[i]? = some o := by
      have h1 := congrArg (fun l => l[0]?) hd
      simp only [List.getElem?_drop, Nat.add_zero, List.getElem?_cons_zero] at h1
      rw [← Array.getElem?_toList]; exact h1
    have hd' : ops.toList.drop (i + 1) = l := by
      have h1 := congrArg (List.drop 1) hd
      rw [List.drop_drop] at h1
      simpa [Nat.add_comm] using h1
    unfold wpMix at h
    split at h
    · rename_i hbar
      -- a barrier
      have only : ∀ j ∈ Region.ready .any ops (preL ops.size i), j = i := fun j hj => by
        by_cases e : j = i
        · exact e
        · have hlt := ready_lt hj
          have hun := (mem_ready.1 hj).1
          rw [(preL_get _ i j hlt).1, decide_eq_false_iff_not] at hun
          have hr := (hB.brs i hi hbar j hlt e).2 (by omega)
          have := ((preL_wtd hB i).set hj).reach _ _ hr (by
            have := (getD_ft (mem_ready.1 hj).1).1
            simp [this])
          rw [getD_set_ne false e, (preL_get _ i i hi).2] at this
          simp at this
      refine ⟨fun h0 => absurd (preL_ready hB ho) (by rw [h0]; simp), fun j hj => ?_⟩
      have := only j hj
      subst this
      unfold wpOp
      simp only [ho]
      have hset : ((preL ops.size j).setIfInBounds j true).getD j false = true := by
        have : j < (preL ops.size j).size := by rw [preL_size]; exact hi
        simp [this]
      have next : ∀ a' w', wpMix P ops bar Q l (j + 1) a' w' → SB bar j w ((preL ops.size j).setIfInBounds j true) w' ∧ Xm.wpAnyS P .any ops (NQ Q) (SB bar j w) l.length ((preL ops.size j).setIfInBounds j true) a' w' := fun a' w' h' => by
        have vac : ∀ (listed : Array Bool) (w' : World), listed.getD j false = true → SB bar j w listed w' := fun listed w' hl hn => by
          have := hn j (Nat.le_refl _) hbar
          rw [hl] at this; cases this
        exact ⟨vac _ _ hset, wpAnyS_weaken (S1 := SB bar (j + 1) w') vac _ _ _ _ hset (wpMix_any hB l (j + 1) a' w' hd' h')⟩
      split
      · rename_i hw
        rw [if_pos hw] at h
        exact nq_step next h
      · rename_i hw
        rw [if_neg hw] at h
        exact next _ _ h
    · rename_i hbar
      obtain ⟨v, hy, h⟩ := h
      have same : ∀ (listed : Array Bool) (j : Nat), NoBar bar (i + 1) listed ↔ NoBar bar i listed := fun listed j => by
        constructor
        · intro hn t ht hb
          rcases Nat.eq_or_lt_of_le ht with e | e
          · rw [e] at hbar; rw [hbar] at hb; cases hb
          · exact hn t e hb
        · intro hn t ht hb
          exact hn t (by omega) hb
      have eS : SB bar (i + 1) w = SB bar i w := by
        funext listed w'
        unfold SB
        rw [same listed 0]
      have ih := wpMix_any hB l (i + 1) (a.put o.dst v) w hd' h
      rw [eS] at ih
      have nobar : NoBar bar i (preL ops.size i) := fun t ht hb => by
        rcases Nat.lt_or_ge t ops.size with h' | h'
        · rw [(preL_get _ i t h').2]; simp; omega
        · have : ¬ t < (preL ops.size i).size := by rw [preL_size]; omega
          simp [this]
      refine Xm.wpAnyS_first (T := SB bar i w) (I := Wtd ops) ho (Region.noSelect_spec hB.sel) (fun c _ _ hq => by cases hq.1) (fun _ _ h hj => h.set hj) ?_ ?_ ?_ (fun _ _ h => h) l.length (preL ops.size i) a w (preL_wtd hB i) (Region.free_spec ho (hB.free i hi hbar)) (preL_ready hB ho) (yieldsIf_weaken hy fun w' hs => hs nobar) (fun _ => rfl) ih
      · intro listed j w' h hn
        exact h fun t ht hb => by
          cases hq : listed.getD t false with
          | false => rfl
          | true =>
            have := hn t ht hb
            rw [getD_set_true hq] at this
            cases this
      · intro listed j w' _ _ _ _ h hn
        refine h fun t ht hb => ?_
        have hti : i ≠ t := fun e => by rw [← e, hbar] at hb; cases hb
        rw [Array.setIfInBounds_comm _ _ (by rintro rfl; contradiction), getD_set_ne false hti]
        exact hn t ht hb
      · intro listed j w' hI hri hrj hji h hn
        refine h fun t ht hb => ?_
        by_cases e : j = t
        · exfalso
          subst e
          have hjl := ready_lt hrj
          have hb2 := hB.brs j hjl hb i hi (Ne.symm hji)
          rcases Nat.lt_or_ge i j with hlt | hge
          · have := (hI.set hrj).reach _ _ (hb2.1 hlt) (by
              have := (getD_ft (mem_ready.1 hrj).1).1
              simp [this])
            rw [getD_set_ne false hji, (getD_ft (mem_ready.1 hri).1).2] at this
            cases this
          · have := (hI.set hri).reach _ _ (hb2.2 (by omega)) (by
              have := (getD_ft (mem_ready.1 hri).1).1
              simp [this])
            rw [getD_set_ne false (Ne.symm hji), (getD_ft (mem_ready.1 hrj).1).2] at this
            cases this
        · rw [getD_set_ne false e]
          exact hn t ht hb

/-- the operations that yield a value, if they yield -/
def isVal : Op → Bool
  | .move _ | .assign _ | .pick .. | .load .. | .binOp .. | .unOp .. | .convert .. | .fieldAddr .. | .field .. | .indexAddr .. | .index .. | .extract .. | .slice .. | .build .. => true
  | .call c => match c.callee with
    | .builtin .len => true
    | _ => false
  | _ => false
theorem isVal_key {s : Sem Value} {w w' : World} {n : Next} (h : ((do pure (.value (← s))) : Sem Next).run P w = .ok n w') : ∃ v, n = .value v := by
  simp only [Sem.run_bind] at h
  cases hs : s.run P w with
  | ok v w1 => rw [hs] at h; simp at h; exact ⟨v, h.1.symm⟩
  | halt x w1 => rw [hs] at h; simp at h
theorem isVal_value {ρ : Operand → Value} {o : Oper} (ho : isVal o.op = true) {w w' : World} {n : Next} (h : (execOp ρ o).run P w = .ok n w') : ∃ v, n = .value v := by
  unfold execOp at h
  split at h <;> first | (exact isVal_key h) | skip
  all_goals first | (rename_i hop; rw [hop] at ho; simp [isVal] at ho; done) | skip
  · simp only [Sem.run_pure, Result.ok.injEq] at h
    exact ⟨_, h.1.symm⟩
  · simp only [Sem.run_pure, Result.ok.injEq] at h
    exact ⟨_, h.1.symm⟩
  · rename_i c a b hop
    simp only [Sem.run_bind] at h
    cases hs : (asBool (ρ c)).run P w with
    | ok v w1 => rw [hs] at h; simp at h; exact ⟨_, h.1.symm⟩
    | halt x w1 => rw [hs] at h; simp at h
  · rename_i c hop
    rw [hop] at ho
    simp only [isVal] at ho
    split at ho
    · rename_i hcal
      simp only [resolve, hcal, Sem.run_bind, Sem.run_pure, Result.andThen_ok, invoke, builtin] at h
      cases hs : (Builtin.len_ c.argTypes o.type (Array.map ρ c.args)).run P w with
      | ok v w1 => rw [hs] at h; simp at h; exact ⟨_, h.1.symm⟩
      | halt x w1 => rw [hs] at h; simp at h
    · cases ho

/-- the region in order, told by the abstract machine -/
def MixS (P : Program) (ops : Array Oper) (bar : Nat → Bool) (l : List Oper) (i : Nat) (S : St) (Q : St → Prop) : Prop :=
  ∀ fx a w (Q' : Act → World → Prop), Models fx S a w → (∀ S' a' w', Q S' → Models fx S' a' w' → Q' a' w') → wpMix P ops bar Q' l i a w
theorem MixS.nil {bar : Nat → Bool} {i : Nat} {S : St} {Q : St → Prop} (h : Q S) : MixS P ops bar [] i S Q := fun _fx _a _w _Q' m hq => hq _ _ _ h m
theorem quiet_mix {bar : Nat → Bool} {Q : Act → World → Prop} {w : World} : ∀ (seg rest : List Oper) (i : Nat) (a : Act), (∀ o ∈ seg, isVal o.op = true) → (∀ j, j < seg.length → bar (i + j) = false) → wpQuiet P ops (Grow w) (fun a' => wpMix P ops bar Q rest (i + seg.length) a' w) seg a → wpMix P ops bar Q (seg ++ rest) i a w
  | [], rest, i, a, _, _, h => h
  | o :: seg, rest, i, a, hv, hb, h => by
    have hb0 := hb 0 (by simp)
    have ih := fun a h => quiet_mix (Q := Q) (w := w) seg rest (i + 1) a (fun o ho => hv o (List.mem_cons.2 (.inr ho))) (fun j hj => by have := hb (j + 1) (by simp; omega); rw [show i + (j + 1) = i + 1 + j by omega] at this; exact this) h
    rw [List.cons_append]
    unfold wpMix
    rw [Nat.add_zero] at hb0
    simp only [hb0]
    unfold wpQuiet at h
    simp only [List.length_cons, show i + (seg.length + 1) = i + 1 + seg.length by omega] at h
    split at h
    · rename_i hw
      obtain ⟨v, h1, h2⟩ := h
      refine ⟨v, .inl ⟨hw, fun w' e => ?_⟩, ih _ h2⟩
      subst e
      have h3 := h1 w' ⟨rfl, rfl, rfl, Nat.le_refl _, fun _ _ => rfl⟩
      unfold Oper.quietAt at h3
      cases hr : (execOp a.eval o).run P w' with
      | ok n w1 =>
        obtain ⟨u, rfl⟩ := isVal_value (hv o (List.mem_cons.2 (.inl rfl))) hr
        rw [hr] at h3
        obtain ⟨rfl, rfl⟩ := h3
        rfl
      | halt x w1 => rw [hr] at h3; exact h3.elim
    · rename_i hw
      exact ⟨undef, .inr ⟨by simpa using hw, rfl⟩, ih _ h⟩
theorem MixS.seg {bar : Nat → Bool} (seg : List Oper) {rest : List Oper} {i : Nat} {S : St} {Q : St → Prop} (hv : ∀ o ∈ seg, isVal o.op = true) (hb : ∀ j, j < seg.length → bar (i + j) = false)
    (h : Chain true P ops seg S (fun S1 => MixS P ops bar rest (i + seg.length) S1 Q)) : MixS P ops bar (seg ++ rest) i S Q := fun fx a w Q' m hq =>
  quiet_mix seg rest i a hv hb (h fx a w _ m fun _S1 a1 h1 m1 => h1 fx a1 w Q' m1 hq)
theorem MixS.bar {bar : Nat → Bool} {o : Oper} {rest : List Oper} {i : Nat} {S : St} {Q : St → Prop} (hb : bar i = true) (h : Chain false P ops [o] S (fun S1 => MixS P ops bar rest (i + 1) S1 Q)) : MixS P ops bar (o :: rest) i S Q := fun fx a w Q' m hq => by
  unfold wpMix
  simp only [hb]
  have h1 := h fx a w (NQ fun a' w' => wpMix P ops bar Q' rest (i + 1) a' w') m fun S1 a1 w1 h1 m1 => ⟨rfl, h1 fx a1 w1 Q' m1 hq⟩
  unfold wpList at h1
  split
  · rename_i hw
    rw [if_pos hw] at h1
    exact nq_step (fun a w hh => hh.2) h1
  · rename_i hw
    rw [if_neg hw] at h1
    exact h1.2
end

theorem AW.regionBar {P : Program} {S : St} {Q : Exit → St → Prop} {id : Nat} {l : List Oper} (bars : List Nat) (hm : P.follows .mixedOrders = true) (hB : barB l.toArray (fun i => bars.contains i) = true)
    (h : MixS P l.toArray (fun i => bars.contains i) l 0 S (Q .normal)) (hd : noDefer l = true := by rfl) : AW P (.region id l.toArray true) S Q := by
  intro fx a w hM
  refine Code.wpIn_mono (fun e a w h => by obtain ⟨rfl, h⟩ := h; exact h) (rd_region_any (Q := Aft fx Q .normal) hd hm ?_)
  have hM' : Models fx S a { w with drawn := w.drawn + 1 } := by
    obtain ⟨E, m⟩ := hM
    exact ⟨E, m.grow ⟨rfl, rfl, rfl, Nat.le_refl _, fun _ _ => rfl⟩⟩
  have := wpMix_any (barB_ok hB) l 0 a { w with drawn := w.drawn + 1 } rfl (h fx a _ (Aft fx Q .normal) hM' fun S' a' w' hq m' => Aft.one hq m')
  have h2 := wpAny_of_S _ _ _ _ this
  simpa [preL] using h2

/-- a stretch of n operations without a barrier -/
theorem MixS.segN {P : Program} {ops : Array Oper} {bar : Nat → Bool} (n : Nat) {l : List Oper} {i : Nat} {S : St} {Q : St → Prop} (hl : Nat.ble n l.length = true) (hv : ((l.take n).all fun o => isVal o.op) = true) (hb : ((List.range n).all fun j => !(bar (i + j))) = true)
    (h : Chain true P ops (l.take n) S (fun S1 => MixS P ops bar (l.drop n) (i + n) S1 Q)) : MixS P ops bar l i S Q := by
  have hl := Nat.le_of_ble_eq_true hl
  have hlen : (l.take n).length = n := by rw [List.length_take]; omega
  have := MixS.seg (ops := ops) (P := P) (bar := bar) (l.take n) (rest := l.drop n) (i := i) (S := S) (Q := Q) (fun o ho => List.all_eq_true.1 hv o ho) (fun j hj => by
    rw [hlen] at hj
    have := List.all_eq_true.1 hb j (List.mem_range.2 hj)
    simpa using this) (by rw [hlen]; exact h)
  rwa [List.take_append_drop] at this
theorem MixS.cut {P : Program} {ops : Array Oper} {bar : Nat → Bool} {l : List Oper} {i : Nat} {S : St} {Q : St → Prop} (S1 : St) (h : MixS P ops bar l i S (fun S' => Sub S' S1)) (hq : ∀ S', Sub S' S1 → Q S') : MixS P ops bar l i S Q := fun fx a w Q' m hq' =>
  h fx a w Q' m fun S' a' w' hs m' => hq' S' a' w' (hq S' hs) m'
theorem AW.cutB {P : Program} {S : St} {Q : Exit → St → Prop} {id : Nat} {l : List Oper} {y : Code} (bars : List Nat) (hm : P.follows .mixedOrders = true) (hB : barB l.toArray (fun i => bars.contains i) = true) (S1 : St)
    (h1 : MixS P l.toArray (fun i => bars.contains i) l 0 S (fun S' => Sub S' S1)) (h2 : AW P y S1 Q) (hd : noDefer l = true := by rfl) : AW P (.seq (.region id l.toArray true) y) S Q :=
  .seq (.regionBar bars hm hB (MixS.cut S1 h1 fun _ hs => .sub hs h2) hd)
end Go.Ab
end
section
namespace Go.Ab
open Go.Xm

section
variable {P : Program} {ops : Array Oper}

/-- in order, up to the tail -/
def wpMixT (P : Program) (ops : Array Oper) (bar : Nat → Bool) (n0 : Nat) (Q : Act → World → Prop) : List Oper → Nat → Act → World → Prop
  | [], _, a, w => Q a w
  | o :: l, i, a, w => match Nat.ble n0 i with
    | true => wpQuiet P ops (Grow w) (fun a' => ∀ w', Grow w w' → Q a' w') (o :: l) a
    | false => match bar i with
      | true => if Region.wanted o (yielded ops a.tmps) then o.wp P a w (wpMixT P ops bar n0 Q l (i + 1)) (NQ Q) ∨ (o.asks P a w ∧ LetsOut (NQ Q)) else wpMixT P ops bar n0 Q l (i + 1) (a.put o.dst undef) w
      | false => ∃ v, YieldsIf P ops (fun w' => w' = w) o v a ∧ wpMixT P ops bar n0 Q l (i + 1) (a.put o.dst v) w
structure TailOK (ops : Array Oper) (bar : Nat → Bool) (n0 : Nat) : Prop where
  lex : Region.lexFrom .any ops (ops.size - n0) n0 (preL ops.size n0) = true
  prev : bar (n0 - 1) = true
theorem wpAnyS_vac {Q : Exit → Act → World → Prop} {S : Array Bool → World → Prop} (hS : ∀ listed w, S listed w) : ∀ (fuel : Nat) (listed : Array Bool) (a : Act) (w : World), wpAny P .any ops Q fuel listed a w → Xm.wpAnyS P .any ops Q S fuel listed a w
  | 0, _, _, _, h => h
  | fuel + 1, _listed, _a, _w, h => ⟨h.1, fun i hi => wpOp_mono (fun a' w' h' => ⟨hS _ _, wpAnyS_vac hS fuel _ a' w' h'⟩) (h.2 i hi)⟩

theorem wpMixT_any {bar : Nat → Bool} (hB : BarOK ops bar) {n0 : Nat} (hT : TailOK ops bar n0) {Q : Act → World → Prop} : ∀ (l : List Oper) (i : Nat) (a : Act) (w : World), i ≤ n0 → ops.toList.drop i = l → wpMixT P ops bar n0 Q l i a w → Xm.wpAnyS P .any ops (NQ Q) (fun L w' => i < n0 → SB bar i w L w') l.length (preL ops.size i) a w
  | [], i, a, w, _, hd, h => by
    have hge : ops.size ≤ i := by
      have := congrArg List.length hd
      simp at this; omega
    refine ⟨?_, rfl, h⟩
    refine List.eq_nil_iff_forall_not_mem.2 fun j hj => ?_
    have hlt := ready_lt hj
    have := (mem_ready.1 hj).1
    rw [(preL_get _ i j hlt).1, decide_eq_false_iff_not] at this
    omega
  | o :: l, i, a, w, hin, hd, h => by
    have hi : i < ops.size := by
      have := congrArg List.length hd
      simp at this; omega
    have ho : ops[i]? = some o := by
      have h1 := congrArg (fun l => l[0]?) hd
      simp only [List.getElem?_drop, Nat.add_zero, List.getElem?_cons_zero] at h1
      rw [← Array.getElem?_toList]; exact h1
    have hd' : ops.toList.drop (i + 1) = l := by
      have h1 := congrArg (List.drop 1) hd
      rw [List.drop_drop] at h1
      simpa [Nat.add_comm] using h1
    unfold wpMixT at h
    rcases Nat.lt_or_ge i n0 with hlt0 | hge0
    rotate_left
    · obtain rfl : i = n0 := by omega
      rw [show Nat.ble i i = true from Nat.ble_eq_true_of_le (Nat.le_refl i)] at h
      have hl : ops.size - i = (o :: l).length := by
        rw [← hd, List.length_drop, Array.length_toList]
      have h1 := wpAnyQ_lex (C := Grow w) (md := .any) (P := P) hB.sel (o :: l) i (preL ops.size i) a (fun j => by rw [← hd, List.getElem?_drop, Array.getElem?_toList]) (by rw [← hl]; exact hT.lex) h
      exact wpAnyS_vac (fun _ _ h => absurd h (Nat.lt_irrefl _)) _ _ _ _ (wpAny_of_quiet (Q' := NQ Q) (fun a' w' hw' hq => ⟨rfl, hq w' hw'⟩) _ _ _ _ ⟨rfl, rfl, rfl, Nat.le_refl _, fun _ _ => rfl⟩ h1)
    rw [show Nat.ble n0 i = false by rw [← Bool.not_eq_true]; exact fun e => by have := Nat.le_of_ble_eq_true e; omega] at h
    dsimp only at h
    split at h
    · rename_i hbar
      -- a barrier
      have only : ∀ j ∈ Region.ready .any ops (preL ops.size i), j = i := fun j hj => by
        by_cases e : j = i
        · exact e
        · have hlt := ready_lt hj
          have hun := (mem_ready.1 hj).1
          rw [(preL_get _ i j hlt).1, decide_eq_false_iff_not] at hun
          have hr := (hB.brs i hi hbar j hlt e).2 (by omega)
          have := ((preL_wtd hB i).set hj).reach _ _ hr (by
            have := (getD_ft (mem_ready.1 hj).1).1
            simp [this])
          rw [getD_set_ne false e, (preL_get _ i i hi).2] at this
          simp at this
      refine ⟨fun h0 => absurd (preL_ready hB ho) (by rw [h0]; simp), fun j hj => ?_⟩
      have := only j hj
      subst this
      unfold wpOp
      simp only [ho]
      have hset : ((preL ops.size j).setIfInBounds j true).getD j false = true := by
        have : j < (preL ops.size j).size := by rw [preL_size]; exact hi
        simp [this]
      have next : ∀ a' w', wpMixT P ops bar n0 Q l (j + 1) a' w' → (j < n0 → SB bar j w ((preL ops.size j).setIfInBounds j true) w') ∧ Xm.wpAnyS P .any ops (NQ Q) (fun L w' => j < n0 → SB bar j w L w') l.length ((preL ops.size j).setIfInBounds j true) a' w' := fun a' w' h' => by
        have vac : ∀ (listed : Array Bool) (w' : World), listed.getD j false = true → SB bar j w listed w' := fun listed w' hl hn => by
          have := hn j (Nat.le_refl _) hbar
          rw [hl] at this; cases this
        exact ⟨fun _ => vac _ _ hset, wpAnyS_weaken (S1 := fun L w'' => j + 1 < n0 → SB bar (j + 1) w' L w'') (fun L w'' hL _ => vac L w'' hL) _ _ _ _ hset (wpMixT_any hB hT l (j + 1) a' w' (by omega) hd' h')⟩
      split
      · rename_i hw
        rw [if_pos hw] at h
        exact nq_step next h
      · rename_i hw
        rw [if_neg hw] at h
        exact next _ _ h
    · rename_i hbar
      obtain ⟨v, hy, h⟩ := h
      have same : ∀ (listed : Array Bool) (j : Nat), NoBar bar (i + 1) listed ↔ NoBar bar i listed := fun listed j => by
        constructor
        · intro hn t ht hb
          rcases Nat.eq_or_lt_of_le ht with e | e
          · rw [e] at hbar; rw [hbar] at hb; cases hb
          · exact hn t e hb
        · intro hn t ht hb
          exact hn t (by omega) hb
      have eS : SB bar (i + 1) w = SB bar i w := by
        funext listed w'
        unfold SB
        rw [same listed 0]
      have hlt1 : i + 1 < n0 := by
        rcases Nat.eq_or_lt_of_le (show i + 1 ≤ n0 by omega) with e | e
        · exfalso
          have := hT.prev
          rw [← e] at this
          rw [Nat.add_sub_cancel] at this
          rw [this] at hbar
          cases hbar
        · exact e
      have ih := wpMixT_any hB hT l (i + 1) (a.put o.dst v) w (by omega) hd' h
      have e1 : (fun L w' => i + 1 < n0 → SB bar (i + 1) w L w') = SB bar i w := by
        rw [← eS]
        funext L w'
        exact propext ⟨fun h => h hlt1, fun h _ => h⟩
      have e2 : (fun L w' => i < n0 → SB bar i w L w') = SB bar i w := by
        funext L w'
        exact propext ⟨fun h => h hlt0, fun h _ => h⟩
      rw [e1] at ih
      rw [e2]
      have nobar : NoBar bar i (preL ops.size i) := fun t ht hb => by
        rcases Nat.lt_or_ge t ops.size with h' | h'
        · rw [(preL_get _ i t h').2]; simp; omega
        · have : ¬ t < (preL ops.size i).size := by rw [preL_size]; omega
          simp [this]
      refine Xm.wpAnyS_first (T := SB bar i w) (I := Wtd ops) ho (Region.noSelect_spec hB.sel) (fun c _ _ hq => by cases hq.1) (fun _ _ h hj => h.set hj) ?_ ?_ ?_ (fun _ _ h => h) l.length (preL ops.size i) a w (preL_wtd hB i) (Region.free_spec ho (hB.free i hi hbar)) (preL_ready hB ho) (yieldsIf_weaken hy fun w' hs => hs nobar) (fun _ => rfl) ih
      · intro listed j w' h hn
        exact h fun t ht hb => by
          cases hq : listed.getD t false with
          | false => rfl
          | true =>
            have := hn t ht hb
            rw [getD_set_true hq] at this
            cases this
      · intro listed j w' _ _ _ _ h hn
        refine h fun t ht hb => ?_
        have hti : i ≠ t := fun e => by rw [← e, hbar] at hb; cases hb
        rw [Array.setIfInBounds_comm _ _ (by rintro rfl; contradiction), getD_set_ne false hti]
        exact hn t ht hb
      · intro listed j w' hI hri hrj hji h hn
        refine h fun t ht hb => ?_
        by_cases e : j = t
        · exfalso
          subst e
          have hjl := ready_lt hrj
          have hb2 := hB.brs j hjl hb i hi (Ne.symm hji)
          rcases Nat.lt_or_ge i j with hlt | hge
          · have := (hI.set hrj).reach _ _ (hb2.1 hlt) (by
              have := (getD_ft (mem_ready.1 hrj).1).1
              simp [this])
            rw [getD_set_ne false hji, (getD_ft (mem_ready.1 hri).1).2] at this
            cases this
          · have := (hI.set hri).reach _ _ (hb2.2 (by omega)) (by
              have := (getD_ft (mem_ready.1 hri).1).1
              simp [this])
            rw [getD_set_ne false (Ne.symm hji), (getD_ft (mem_ready.1 hrj).1).2] at this
            cases this
        · rw [getD_set_ne false e]
          exact hn t ht hb


/-- the region in order, told by the abstract machine -/
def MixT (P : Program) (ops : Array Oper) (bar : Nat → Bool) (n0 : Nat) (l : List Oper) (i : Nat) (S : St) (Q : St → Prop) : Prop :=
  ∀ fx a w (Q' : Act → World → Prop), Models fx S a w → (∀ S' a' w', Q S' → Models fx S' a' w' → Q' a' w') → wpMixT P ops bar n0 Q' l i a w
theorem MixT.tail {bar : Nat → Bool} {n0 : Nat} {l : List Oper} {i : Nat} {S : St} {Q : St → Prop} (hi : Nat.ble n0 i = true) (hl : l.isEmpty = false) (h : Chain true P ops l S Q) : MixT P ops bar n0 l i S Q := fun fx a w Q' m hq => by
  cases l with
  | nil => cases hl
  | cons o l =>
    unfold wpMixT
    rw [hi]
    exact h fx a w _ m fun S' a' hs m' w' hw => hq S' a' w' hs (by obtain ⟨E, m'⟩ := m'; exact ⟨E, m'.grow hw⟩)
theorem quiet_mixT {bar : Nat → Bool} {n0 : Nat} {Q : Act → World → Prop} {w : World} : ∀ (seg rest : List Oper) (i : Nat) (a : Act), i + seg.length ≤ n0 → (∀ o ∈ seg, isVal o.op = true) → (∀ j, j < seg.length → bar (i + j) = false) → wpQuiet P ops (Grow w) (fun a' => wpMixT P ops bar n0 Q rest (i + seg.length) a' w) seg a → wpMixT P ops bar n0 Q (seg ++ rest) i a w
  | [], rest, i, a, _, _, _, h => h
  | o :: seg, rest, i, a, hn, hv, hb, h => by
    simp only [List.length_cons] at hn
    have hb0 := hb 0 (by simp)
    have ih := fun a h => quiet_mixT (n0 := n0) (Q := Q) (w := w) seg rest (i + 1) a (by omega) (fun o ho => hv o (List.mem_cons.2 (.inr ho))) (fun j hj => by have := hb (j + 1) (by simp; omega); rw [show i + (j + 1) = i + 1 + j by omega] at this; exact this) h
    rw [List.cons_append]
    unfold wpMixT
    rw [Nat.add_zero] at hb0
    rw [show Nat.ble n0 i = false by rw [← Bool.not_eq_true]; exact fun e => by have := Nat.le_of_ble_eq_true e; omega]
    simp only [hb0]
    unfold wpQuiet at h
    simp only [List.length_cons, show i + (seg.length + 1) = i + 1 + seg.length by omega] at h
    split at h
    · rename_i hw
      obtain ⟨v, h1, h2⟩ := h
      refine ⟨v, .inl ⟨hw, fun w' e => ?_⟩, ih _ h2⟩
      subst e
      have h3 := h1 w' ⟨rfl, rfl, rfl, Nat.le_refl _, fun _ _ => rfl⟩
      unfold Oper.quietAt at h3
      cases hr : (execOp a.eval o).run P w' with
      | ok n w1 =>
        obtain ⟨u, rfl⟩ := isVal_value (hv o (List.mem_cons.2 (.inl rfl))) hr
        rw [hr] at h3
        obtain ⟨rfl, rfl⟩ := h3
        rfl
      | halt x w1 => rw [hr] at h3; exact h3.elim
    · rename_i hw
      exact ⟨undef, .inr ⟨by simpa using hw, rfl⟩, ih _ h⟩
theorem MixT.seg {bar : Nat → Bool} {n0 : Nat} (seg : List Oper) {rest : List Oper} {i : Nat} {S : St} {Q : St → Prop} (hn : i + seg.length ≤ n0) (hv : ∀ o ∈ seg, isVal o.op = true) (hb : ∀ j, j < seg.length → bar (i + j) = false)
    (h : Chain true P ops seg S (fun S1 => MixT P ops bar n0 rest (i + seg.length) S1 Q)) : MixT P ops bar n0 (seg ++ rest) i S Q := fun fx a w Q' m hq =>
  quiet_mixT seg rest i a hn hv hb (h fx a w _ m fun _S1 a1 h1 m1 => h1 fx a1 w Q' m1 hq)
theorem MixT.bar {bar : Nat → Bool} {n0 : Nat} {o : Oper} {rest : List Oper} {i : Nat} {S : St} {Q : St → Prop} (hn : Nat.blt i n0 = true) (hb : bar i = true) (h : Chain false P ops [o] S (fun S1 => MixT P ops bar n0 rest (i + 1) S1 Q)) : MixT P ops bar n0 (o :: rest) i S Q := fun fx a w Q' m hq => by
  unfold wpMixT
  rw [show Nat.ble n0 i = false by rw [← Bool.not_eq_true]; exact fun e => by have := Nat.le_of_ble_eq_true e; have := Nat.le_of_ble_eq_true hn; omega]
  simp only [hb]
  have h1 := h fx a w (NQ fun a' w' => wpMixT P ops bar n0 Q' rest (i + 1) a' w') m fun S1 a1 w1 h1 m1 => ⟨rfl, h1 fx a1 w1 Q' m1 hq⟩
  unfold wpList at h1
  split
  · rename_i hw
    rw [if_pos hw] at h1
    exact nq_step (fun a w hh => hh.2) h1
  · rename_i hw
    rw [if_neg hw] at h1
    exact h1.2
end

theorem AW.regionBarT {P : Program} {S : St} {Q : Exit → St → Prop} {id : Nat} {l : List Oper} (bars : List Nat) (n0 : Nat) (hm : P.follows .mixedOrders = true) (hB : barB l.toArray (fun i => bars.contains i) = true)
    (hT : (Region.lexFrom .any l.toArray (l.toArray.size - n0) n0 (preL l.toArray.size n0) && bars.contains (n0 - 1)) = true) (h : MixT P l.toArray (fun i => bars.contains i) n0 l 0 S (Q .normal)) (hd : noDefer l = true := by rfl) : AW P (.region id l.toArray true) S Q := by
  intro fx a w hM
  refine Code.wpIn_mono (fun e a w h => by obtain ⟨rfl, h⟩ := h; exact h) (rd_region_any (Q := Aft fx Q .normal) hd hm ?_)
  have hM' : Models fx S a { w with drawn := w.drawn + 1 } := by
    obtain ⟨E, m⟩ := hM
    exact ⟨E, m.grow ⟨rfl, rfl, rfl, Nat.le_refl _, fun _ _ => rfl⟩⟩
  have := wpMixT_any (barB_ok hB) (n0 := n0) (by rw [Bool.and_eq_true] at hT; exact ⟨hT.1, hT.2⟩) l 0 a { w with drawn := w.drawn + 1 } (Nat.zero_le _) rfl (h fx a _ (Aft fx Q .normal) hM' fun S' a' w' hq m' => Aft.one hq m')
  have h2 := wpAny_of_S _ _ _ _ this
  simpa [preL] using h2

/-- a stretch of n operations without a barrier -/
theorem MixT.segN {P : Program} {ops : Array Oper} {bar : Nat → Bool} {n0 : Nat} (n : Nat) {l : List Oper} {i : Nat} {S : St} {Q : St → Prop} (hn : Nat.ble (i + n) n0 = true) (hl : Nat.ble n l.length = true) (hv : ((l.take n).all fun o => isVal o.op) = true) (hb : ((List.range n).all fun j => !(bar (i + j))) = true)
    (h : Chain true P ops (l.take n) S (fun S1 => MixT P ops bar n0 (l.drop n) (i + n) S1 Q)) : MixT P ops bar n0 l i S Q := by
  have hl := Nat.le_of_ble_eq_true hl
  have hlen : (l.take n).length = n := by rw [List.length_take]; omega
  have := MixT.seg (ops := ops) (P := P) (bar := bar) (l.take n) (rest := l.drop n) (n0 := n0) (i := i) (S := S) (Q := Q) (by rw [hlen]; exact Nat.le_of_ble_eq_true hn) (fun o ho => List.all_eq_true.1 hv o ho) (fun j hj => by
    rw [hlen] at hj
    have := List.all_eq_true.1 hb j (List.mem_range.2 hj)
    simpa using this) (by rw [hlen]; exact h)
  rwa [List.take_append_drop] at this
theorem MixT.cut {P : Program} {ops : Array Oper} {bar : Nat → Bool} {n0 : Nat} {l : List Oper} {i : Nat} {S : St} {Q : St → Prop} (S1 : St) (h : MixT P ops bar n0 l i S (fun S' => Sub S' S1)) (hq : ∀ S', Sub S' S1 → Q S') : MixT P ops bar n0 l i S Q := fun fx a w Q' m hq' =>
  h fx a w Q' m fun S' a' w' hs m' => hq' S' a' w' (hq S' hs) m'
theorem AW.cutBT {P : Program} {S : St} {Q : Exit → St → Prop} {id : Nat} {l : List Oper} {y : Code} (bars : List Nat) (n0 : Nat) (hm : P.follows .mixedOrders = true) (hB : barB l.toArray (fun i => bars.contains i) = true) (S1 : St) (hT : (Region.lexFrom .any l.toArray (l.toArray.size - n0) n0 (preL l.toArray.size n0) && bars.contains (n0 - 1)) = true)
    (h1 : MixT P l.toArray (fun i => bars.contains i) n0 l 0 S (fun S' => Sub S' S1)) (h2 : AW P y S1 Q) (hd : noDefer l = true := by rfl) : AW P (.seq (.region id l.toArray true) y) S Q :=
  .seq (.regionBarT bars n0 hm hB hT (MixT.cut S1 h1 fun _ hs => .sub hs h2) hd)
end Go.Ab
end
