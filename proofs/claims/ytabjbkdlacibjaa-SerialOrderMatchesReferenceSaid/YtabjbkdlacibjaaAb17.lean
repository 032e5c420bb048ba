/- The abstract machine: loops with an invariant; how the base types read. -/
import Derived.Test.YtabjbkdlacibjaaAb16
namespace Go.Ab
open Go.RowKit

theorem AW.forP {P : Program} {S : St} {Q : Exit → St → Prop} {c : Code} (N : Nat) (I : Nat → St) (p : Nat → Prop) (h0 : Sub S (I 0)) (hp : p 0) (round : ∀ k, k ≤ N → p k → AW P c (I k) (thenQ (fun S' => k < N ∧ p (k + 1) ∧ Sub S' (I (k + 1))) Q)) : AW P (.loop c) S Q := by
  refine AW.loop (fun n S0 => ∃ k, k ≤ N ∧ p k ∧ n = N - k ∧ S0 = I k) h0 ⟨0, Nat.zero_le _, hp, rfl, rfl⟩ ?_
  rintro n S0 ⟨k, hk, hpk, rfl, rfl⟩
  refine (round k hk hpk).mono fun e S' h => ?_
  cases e with
  | normal =>
    obtain ⟨h1, h3, h2⟩ := h
    exact ⟨N - (k + 1), _, by omega, h2, k + 1, by omega, h3, rfl, rfl⟩
  | exit id => exact h
  | goto l => exact h
  | ret => exact h
  | panic ch => exact h
  | outgrown => exact h

@[simp] theorem eC_int (n : Int) : (Enc.eC n : List D) = [.lit (.int .i64 n)] := rfl
@[simp] theorem eC_bool (n : Bool) : (Enc.eC n : List D) = [.lit (.bool n)] := rfl
@[simp] theorem eC_str (n : ByteArray) : (Enc.eC n : List D) = [.lit (.string n)] := rfl
@[simp] theorem eC_byte (n : UInt8) : (Enc.eC n : List D) = [.lit (.int .u8 n.toNat)] := rfl
@[simp] theorem eC_list {α : Type} [Rp.Rep α] [Enc α] (xs : List α) : (Enc.eC xs : List D) = [.sl (xs.map Enc.eC)] := rfl
@[simp] theorem eV_int (n : Int) : Enc.eV n = .d (.lit (.int .i64 n)) := rfl
@[simp] theorem eV_bool (n : Bool) : Enc.eV n = .d (.lit (.bool n)) := rfl
@[simp] theorem eV_str (n : ByteArray) : Enc.eV n = .d (.lit (.string n)) := rfl
@[simp] theorem eV_byte (n : UInt8) : Enc.eV n = .d (.lit (.int .u8 n.toNat)) := rfl
@[simp] theorem eV_list {α : Type} [Rp.Rep α] [Enc α] (xs : List α) : Enc.eV xs = .d (.sl (xs.map Enc.eC)) := rfl

theorem bytes_ext {a b : ByteArray} (h : a.data = b.data) : a = b := by cases a; cases b; simp_all
@[simp] theorem toList_beq (x y : ByteArray) : (x.toList == y.toList) = decide (x = y) := by
  rw [← beq_toListBytes]
  by_cases h : x = y
  · subst h
    simp only [decide_true]
    show (x.data == x.data) = true
    simp
  · rw [decide_eq_false h]
    cases hb : (x == y) with
    | false => rfl
    | true =>
      have : (x.data == y.data) = true := hb
      have e : x.data = y.data := by simpa using this
      exact absurd (bytes_ext e) h

/-- small numbers don't wrap -/
theorem wrap_i64 {n : Int} (h1 : -9223372036854775808 ≤ n) (h2 : n ≤ 9223372036854775807) : IntKind.i64.wrap n = n := by
  simp only [IntKind.wrap, IntKind.signed, IntKind.bits]
  simp
  omega
@[simp] theorem mapO_viewD_d {H : Heap} {k : Nat} : ∀ cs : List D, mapO (viewD H k) (cs.map V.d) = some cs
  | [] => rfl
  | c :: cs => by
    have e : viewD H k (V.d c) = some c := by cases k <;> rfl
    simp only [List.map_cons, mapO, e, mapO_viewD_d cs]
@[simp] theorem mapO_viewV_d {H : Heap} : ∀ cs : List D, mapO (viewV H) (cs.map V.d) = some (cs.map V.d)
  | [] => rfl
  | c :: cs => by
    have e : viewV H (V.d c) = some (.d c) := rfl
    simp only [List.map_cons, mapO, e, mapO_viewV_d cs]
@[simp] theorem closedL_d : ∀ cs : List D, closedL (cs.map V.d) = true
  | [] => rfl
  | c :: cs => by simp only [List.map_cons, closedL, V.closed, closedL_d cs, Bool.and_self]
@[simp] theorem hasL_d {id : Nat} : ∀ cs : List D, hasL id (cs.map V.d) = false
  | [] => rfl
  | c :: cs => by simp only [List.map_cons, hasL, V.has, hasL_d cs, Bool.or_self]
@[simp] theorem onlyL_d {id : Nat} : ∀ cs : List D, onlyL id (cs.map V.d) = true
  | [] => rfl
  | c :: cs => by simp only [List.map_cons, onlyL, V.only, onlyL_d cs, Bool.and_self]

/-- a region to its end -/
def endK (K : St → Prop) : Option (List Oper × St) → Prop
  | some ([], S) => K S
  | _ => False
attribute [simp] endK
theorem AW.goR {P : Program} {S : St} {Q : Exit → St → Prop} {id : Nat} {l : List Oper} {y : Code} (fz : List Nat) (n : Nat) (h : ∀ K : St → Prop, (∀ S', AW P y S' Q → K S') → endK K (Ab.runM (tyOf P) fz l.toArray n l S)) : AW P (.seq (.region id l.toArray false) y) S Q := by
  refine AW.seqR ?_
  have h := h _ (fun _ h => h)
  unfold endK at h
  split at h
  · rename_i S' hr; exact Chain.runM fz n hr (.nil h)
  · exact h.elim
theorem AW.goE {P : Program} {S : St} {Q : Exit → St → Prop} {id : Nat} {l : List Oper} (fz : List Nat) (n : Nat) (h : ∀ K : St → Prop, (∀ S', Q .normal S' → K S') → endK K (Ab.runM (tyOf P) fz l.toArray n l S)) : AW P (.region id l.toArray false) S Q := by
  refine AW.region ?_
  have h := h _ (fun _ h => h)
  unfold endK at h
  split at h
  · rename_i S' hr; exact Chain.runM fz n hr (.nil h)
  · exact h.elim
theorem AW.goQ {P : Program} {S : St} {Q : Exit → St → Prop} {id : Nat} {l : List Oper} {y : Code} (hm : P.follows .mixedOrders = true) (hB : Region.lexB .any l.toArray = true) (n : Nat) (h : ∀ K : St → Prop, (∀ S', AW P y S' Q → K S') → endK K (Ab.runN (tyOf P) l.toArray n l S)) : AW P (.seq (.region id l.toArray true) y) S Q := by
  refine AW.seqQ hm hB ?_
  have h := h _ (fun _ h => h)
  unfold endK at h
  split at h
  · rename_i S' hr; exact Chain.run n hr (.nil h)
  · exact h.elim

theorem Chain.cut {q : Bool} {P : Program} {ops : Array Oper} {l : List Oper} {S : St} {Q : St → Prop} (S1 : St) (h1 : Chain q P ops l S (fun S' => Sub S' S1)) (h2 : ∀ S', Sub S' S1 → Q S') : Chain q P ops l S Q := by
  cases q with
  | false => exact fun fx a w Q' m hq => h1 fx a w Q' m fun S' a' w' hs m' => hq S' a' w' (h2 S' hs) m'
  | true => exact fun fx a w Q' m hq => h1 fx a w Q' m fun S' a' hs m' => hq S' a' (h2 S' hs) m'
/-- what a region leaves, said once -/
theorem AW.cutR {P : Program} {S : St} {Q : Exit → St → Prop} {id : Nat} {l : List Oper} {y : Code} (S1 : St) (h1 : Chain false P l.toArray l S (fun S' => Sub S' S1)) (h2 : AW P y S1 Q) : AW P (.seq (.region id l.toArray false) y) S Q :=
  .seqR (Chain.cut S1 h1 fun _ hs => .sub hs h2)
theorem AW.cutQ {P : Program} {S : St} {Q : Exit → St → Prop} {id : Nat} {l : List Oper} {y : Code} (hm : P.follows .mixedOrders = true) (hB : Region.lexB .any l.toArray = true) (S1 : St) (h1 : Chain true P l.toArray l S (fun S' => Sub S' S1)) (h2 : AW P y S1 Q) : AW P (.seq (.region id l.toArray true) y) S Q :=
  .seqQ hm hB (Chain.cut S1 h1 fun _ hs => .sub hs h2)
/-- the same for a region that ends a piece -/
theorem AW.endQ {P : Program} {S : St} {Q : Exit → St → Prop} {id : Nat} {l : List Oper} (hm : P.follows .mixedOrders = true) (hB : Region.lexB .any l.toArray = true) (S1 : St) (h1 : Chain true P l.toArray l S (fun S' => Sub S' S1)) (h2 : ∀ S', Sub S' S1 → Q .normal S') : AW P (.region id l.toArray true) S Q :=
  .regionQ hm hB (Chain.cut S1 h1 h2)

theorem AW.len {P : Program} {S : St} {Q : Exit → St → Prop} {c : Code} (t : Nat) {es : List (List D)} (ht : S.sl t = .d (.sl es)) (h : es.length ≤ 9223372036854775807 → AW P c S Q) : AW P c S Q := fun fx a w ⟨E, m⟩ => by
  have hs := m.slots t
  rw [ht] at hs
  obtain ⟨A, cap, _, h1, h2, _⟩ := hs
  exact h (by unfold maxLen at h2; omega) fx a w ⟨E, m⟩
end Go.Ab
