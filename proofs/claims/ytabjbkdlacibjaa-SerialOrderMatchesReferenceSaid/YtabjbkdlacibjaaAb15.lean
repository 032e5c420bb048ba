/- The abstract machine: how arguments read, how a law is lifted; loops, ends. -/
import Derived.Test.YtabjbkdlacibjaaAb14
namespace Go.Ab
open Go.RowKit Go.Rp

/-! ### ends and branches, what follows hidden -/
def condK (K1 K2 : Prop) : V → Prop
  | .d (.lit (.bool b)) => (b = true → K1) ∧ (b = false → K2)
  | _ => False
def outK (K : V → Prop) : Option V → Prop
  | some r => K r
  | none => False
attribute [simp] condK outK

section
variable {P : Program} {S : St} {Q : Exit → St → Prop}
theorem AW.condK {c : Operand} {x y : Code} (h : ∀ K1 K2 : Prop, (AW P x S Q → K1) → (AW P y S Q → K2) → Ab.condK K1 K2 (S.ev c)) : AW P (.cond c x y) S Q := by
  have h := h _ _ (fun h => h) (fun h => h)
  unfold Ab.condK at h
  split at h
  · rename_i b hb
    exact .cond hb h.1 h.2
  · exact h.elim

theorem AW.forN {c : Code} (N : Nat) (I : Nat → St) (h0 : Sub S (I 0)) (round : ∀ k, k ≤ N → AW P c (I k) (thenQ (fun S' => k < N ∧ Sub S' (I (k + 1))) Q)) : AW P (.loop c) S Q := by
  refine AW.loop (fun n S0 => ∃ k, k ≤ N ∧ n = N - k ∧ S0 = I k) h0 ⟨0, Nat.zero_le _, rfl, rfl⟩ ?_
  rintro n S0 ⟨k, hk, rfl, rfl⟩
  refine (round k hk).mono fun e S' h => ?_
  cases e with
  | normal =>
    obtain ⟨h1, h2⟩ := h
    exact ⟨N - (k + 1), _, by omega, h2, k + 1, by omega, rfl, rfl⟩
  | exit id => exact h
  | goto l => exact h
  | ret => exact h
  | panic ch => exact h
  | outgrown => exact h

/-- the end of a function that only reads -/
def Fin (P : Program) (fn : Func) (Q : V → Option Blk → Prop) (e : Exit) (S : St) : Prop :=
  (e = .normal ∨ e = .ret) ∧ ∃ r, outV (tyOf P) fn.results.toList S = some r ∧ ((r.closed = true ∧ Q r none) ∨ ∃ id T n es, r.only id = true ∧ S.hp id = some (.arr T n es) ∧ Q r (some (.arr T n es)))

theorem Fin.ret {fn : Func} {Q : V → Option Blk → Prop} (h : ∀ K : V → Prop, (∀ r, ((r.closed = true ∧ Q r none) ∨ ∃ id T n es, r.only id = true ∧ S.hp id = some (.arr T n es) ∧ Q r (some (.arr T n es))) → K r) → Ab.outK K (outV (tyOf P) fn.results.toList S)) : Fin P fn Q .ret S := by
  have h := h _ (fun _ h => h)
  unfold Ab.outK at h
  split at h
  · rename_i r hr; exact ⟨.inr rfl, r, hr, h⟩
  · exact h.elim
theorem Fin.normal {fn : Func} {Q : V → Option Blk → Prop} (h : Fin P fn Q .ret S) : Fin P fn Q .normal S := ⟨.inl rfl, h.2⟩

theorem Fun.fin {f : FuncId} {fn : Func} {c : Code} {args : List V} {Q : V → Option Blk → Prop} (hf : P.funcs[f]? = some fn) (hb : fn.body = some c) (hle : args.length ≤ fn.ntmps)
    (h : AW P c (mk fn.ntmps [] (enterL args 0) []) (Fin P fn Q)) : Fun P f args Q := by
  intro w Z vals hz hv
  have hC := Ctr.of (P := P) (f := f) (args := args) (h0 := []) (rts := []) (Q := fun r H => (r.closed = true ∧ Q r none) ∨ ∃ id T n es, r.only id = true ∧ H id = some (.arr T n es) ∧ Q r (some (.arr T n es))) hf hb hle
    (h.mono fun e S ⟨h1, r, h2, h3⟩ => ⟨h1, r, h2, h3⟩)
  refine (hC w (oneE default Z) vals ⟨fun id k hk => (by cases hk), fun i j hi => absurd rfl hi, fun i hi => absurd rfl hi, hz⟩ hv).mono ?_
  rintro e w' ⟨v, E', r, H1, rfl, hq, hr, hp⟩
  have hzz : ∀ b, E'.Z b → (Z b ∨ w.heap.size ≤ b) ∧ b < w'.heap.size := fun b hb => by
    refine ⟨?_, hp.ok.zlt b hb⟩
    rcases hp.z b hb with h | h | ⟨i, hi, _⟩
    · exact .inl h
    · exact .inr h
    · exact absurd rfl hi
  have hg : Grow w w' := ⟨hp.frame.os, hp.frame.tape, hp.frame.output, hp.frame.size, fun k hk => hp.frame.block k hk (fun ⟨i, hi, _⟩ => hi rfl)⟩
  rcases hq with ⟨h1, h2⟩ | ⟨id, T, n, es, h1, h2, h3⟩
  · exact ⟨v, default, E'.Z, r, none, rfl, h2, RV.closed default r v h1 hr, (fun blk hb => by cases hb), hzz, hg⟩
  · refine ⟨v, E'.loc id, E'.Z, r, _, rfl, h3, RV.only (E := E') (E' := oneE (E'.loc id) E'.Z) (id := id) (fun _ h => h) (fun i hi => rfl) r v h1 hr, fun blk hblk => ?_, hzz, hg⟩
    injection hblk with hblk
    subst hblk
    have hh := hp.ok.hold id _ h2
    refine ⟨hh, fun hn => ⟨?_, hp.ok.apart id (by rw [h2]; simp) hn⟩⟩
    rcases hp.mine id (by rw [h2]; simp) hn with h | ⟨i, hi, _⟩
    · exact h
    · exact absurd rfl hi
end

/-! ### arguments -/
class Enc (α : Type) [Rep α] where
  eC : α → List D
  eV : α → V
  soundC : ∀ {w : World} {B : Nat} {a : α} {cs : List Value}, Rep.is w B a cs → RDs w (· < B) (eC a) cs
  soundV : ∀ {E : Env} {w : World} {B : Nat} {a : α} {cs : List Value}, (∀ b, b < B → E.Z b) → Rep.is w B a cs → RV E w (eV a) (Rep.box α cs)
open Enc (eC eV)
class EncF (α : Type) [Flds α] where
  eC : α → List D
  soundC : ∀ {w : World} {B : Nat} {a : α} {cs : List Value}, Flds.is w B a cs → RDs w (· < B) (eC a) cs

instance : Enc Int where
  eC n := [.lit (.int .i64 n)]
  eV n := .d (.lit (.int .i64 n))
  soundC h := by rw [h.1]; exact ⟨_, [], rfl, ⟨rfl, rfl⟩, rfl⟩
  soundV _ h := by rw [h.1]; exact ⟨rfl, rfl⟩
instance : Enc Bool where
  eC b := [.lit (.bool b)]
  eV b := .d (.lit (.bool b))
  soundC h := by
    have h : _ = _ := h
    rw [h]; exact ⟨_, [], rfl, ⟨rfl, rfl⟩, rfl⟩
  soundV _ h := by
    have h : _ = _ := h
    rw [h]; exact ⟨rfl, rfl⟩
instance : Enc ByteArray where
  eC s := [.lit (.string s)]
  eV s := .d (.lit (.string s))
  soundC h := by rw [h.1]; exact ⟨_, [], rfl, ⟨rfl, rfl⟩, rfl⟩
  soundV _ h := by rw [h.1]; exact ⟨rfl, rfl⟩
instance : Enc UInt8 where
  eC s := [.lit (.int .u8 s.toNat)]
  eV s := .d (.lit (.int .u8 s.toNat))
  soundC h := by
    have h : _ = _ := h
    rw [h]; exact ⟨_, [], rfl, ⟨rfl, rfl⟩, rfl⟩
  soundV _ h := by
    have h : _ = _ := h
    rw [h]; exact ⟨rfl, rfl⟩

theorem list_sound {α : Type} [Rep α] [Enc α] {w : World} {B : Nat} {xs : List α} {v : Value} (h : Rep.is w B xs [v]) : RD w (· < B) (.sl (xs.map eC)) v := by
  obtain ⟨A, cap, hv, h1, h2, h3, h4, h5⟩ := h
  simp only [List.cons.injEq, and_true] at hv
  subst hv
  refine ⟨A, cap, by rw [List.length_map], by rw [List.length_map]; exact h1, h2, h4, fun hne => ?_⟩
  have hpos : 0 < xs.length := by
    cases xs with
    | nil => exact absurd rfl hne
    | cons x r => simp
  obtain ⟨b, off, es0, rfl, hB, hes0, hc0⟩ := h5 0 hpos
  -- the cells, one element behind the other
  have build : ∀ k, k ≤ xs.length → ∃ flat, RDe w (· < B) ((xs.drop (xs.length - k)).map eC) flat ∧ w.rangeAt b (off + (xs.length - k) * Rep.n α) flat ∧ flat.length = k * Rep.n α := by
    intro k
    induction k with
    | zero => intro _; exact ⟨[], by simp [RDe], fun j v hv => by simp at hv, by simp⟩
    | succ k ih =>
      intro hk
      obtain ⟨flat, h6, h7, h8⟩ := ih (by omega)
      have hi : xs.length - (k + 1) < xs.length := by omega
      obtain ⟨b', off', es, hA, _, hes, hc⟩ := h5 _ hi
      injection hA with hA
      injection hA with e1 e2
      subst e1; subst e2
      have hd : xs.drop (xs.length - (k + 1)) = xs[xs.length - (k + 1)] :: xs.drop (xs.length - k) := by
        rw [List.drop_eq_getElem_cons hi]
        congr 2
        omega
      have hel := Rep.len hes
      refine ⟨es ++ flat, ?_, ?_, ?_⟩
      · rw [hd, List.map_cons]
        exact ⟨es, flat, rfl, Enc.soundC hes, h6⟩
      · intro j v hv
        rcases Nat.lt_or_ge j es.length with hj | hj
        · rw [List.getElem?_append_left hj] at hv
          rw [hc j (by omega)]; exact hv
        · rw [List.getElem?_append_right hj] at hv
          have := h7 _ v hv
          rw [hel] at this
          have e : off + (xs.length - k) * Rep.n α + (j - Rep.n α) = off + (xs.length - (k + 1)) * Rep.n α + j := by
            have : xs.length - k = (xs.length - (k + 1)) + 1 := by omega
            rw [this, Nat.add_mul, Nat.one_mul]; omega
          rw [e] at this
          exact this
      · rw [List.length_append, hel, h8, Nat.add_mul, Nat.one_mul, Nat.add_comm]
  obtain ⟨flat, h6, h7, h8⟩ := build xs.length (Nat.le_refl _)
  rw [Nat.sub_self] at h6 h7
  rw [Nat.zero_mul, Nat.add_zero] at h7
  refine ⟨b, off, Rep.n α, flat, rfl, hB, fun e he => ?_, by simpa using h6, h7⟩
  obtain ⟨x, hx, rfl⟩ := List.mem_map.1 he
  obtain ⟨i, hi, rfl⟩ := List.getElem_of_mem hx
  obtain ⟨_, _, es, _, _, hes, _⟩ := h5 i hi
  rw [← RDs_length (Enc.soundC hes), Rep.len hes]

theorem isList_one {α : Type} [Rep α] {w : World} {B : Nat} {xs : List α} {cs : List Value} (h : Rep.is w B xs cs) : ∃ v, cs = [v] := by
  obtain ⟨A, cap, hv, _⟩ := h
  exact ⟨_, hv⟩

instance {α : Type} [Rep α] [Enc α] : Enc (List α) where
  eC xs := [.sl (xs.map eC)]
  eV xs := .d (.sl (xs.map eC))
  soundC h := by
    obtain ⟨v, rfl⟩ := isList_one h
    exact ⟨v, [], rfl, list_sound h, rfl⟩
  soundV hz h := by
    obtain ⟨v, rfl⟩ := isList_one h
    exact RD.keep (fun _ _ => rfl) hz _ _ (list_sound h)

instance : EncF Unit where
  eC _ := []
  soundC h := h
instance {α β : Type} [Rep α] [Enc α] [Flds β] [EncF β] : EncF (α × β) where
  eC a := eC a.1 ++ EncF.eC a.2
  soundC h := by
    obtain ⟨c1, c2, rfl, h1, h2⟩ := h
    exact RDs_append (Enc.soundC h1) (EncF.soundC h2)
instance {α : Type} [Flds α] [EncF α] : Enc (Rp.St α) where
  eC a := EncF.eC a.val
  eV a := .agg ((EncF.eC a.val).map V.d)
  soundC h := EncF.soundC (α := α) h
  soundV hz h := ⟨_, rfl, fun c hc => by obtain ⟨x, _, rfl⟩ := List.mem_map.1 hc; rfl, RVs_d.2 (RDs.keep (fun _ _ => rfl) hz _ _ (EncF.soundC (α := α) h))⟩

/-- a law: its contract, at whatever arguments read -/
theorem calls_true {P : Program} {f : FuncId} {vs : List V} {args : Array Value} {W : World} (hF : Fun P f vs (fun r _ => r = .d (.lit (.bool true)))) (hv : RVs (oneE default (· < W.heap.size)) W vs args.toList) :
    Calls P f args W fun e W' => e = .returned (.bool true) ∧ Below W.heap.size W W' := by
  have := hF W (· < W.heap.size) args.toList (fun _ h => h) hv
  rw [show args.toList.toArray = args from Array.toArray_toList] at this
  refine this.mono ?_
  rintro e w' ⟨v, ℓ, Z', r, k, rfl, rfl, hr, _, _, hg⟩
  exact ⟨by rw [RD_lit hr], hg⟩
end Go.Ab
