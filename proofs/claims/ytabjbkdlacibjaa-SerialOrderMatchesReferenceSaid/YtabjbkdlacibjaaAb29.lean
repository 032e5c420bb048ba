/- More for functional programs: nil slices as data, last pieces, cells of typed data. -/
import Derived.Test.YtabjbkdlacibjaaAb28
namespace Go.Ab
open Go.RowKit

/-! ### cells of typed data -/
def cI (k : IntKind) (n : Int) : List D := [.lit (.int k n)]
def cB (b : Bool) : List D := [.lit (.bool b)]
def cS (s : ByteArray) : List D := [.lit (.string s)]
def cL {α : Type} (c : α → List D) (xs : List α) : List D := [.sl (xs.map c)]
attribute [simp] cI cB cS cL
theorem setI_some {α : Type} {xs ys : List α} {i : Int} {x : α} {k : Nat} (c : α → List D) (h : setI xs i x = ys) (hk : i.toNat = k) : (xs.map c).set k (c x) = ys.map c ∧ ys.length = xs.length := by
  subst h; subst hk
  exact ⟨by simp [setI, List.map_set], by simp [setI]⟩

theorem all_len {α : Type} {c : α → List D} {n : Nat} (h : ∀ x, (c x).length = n) (xs : List α) : xs.all ((fun e => decide (e.length = n)) ∘ c) = true := by
  rw [List.all_eq_true]
  intro x _
  simp [h]
@[simp] theorem all_cI (k : IntKind) (xs : List Int) : xs.all ((fun e => decide (e.length = 1)) ∘ cI k) = true := all_len (c := cI k) (fun _ => rfl) xs
@[simp] theorem all_cB (xs : List Bool) : xs.all ((fun e => decide (e.length = 1)) ∘ cB) = true := all_len (c := cB) (fun _ => rfl) xs
@[simp] theorem all_cS (xs : List ByteArray) : xs.all ((fun e => decide (e.length = 1)) ∘ cS) = true := all_len (c := cS) (fun _ => rfl) xs
@[simp] theorem all_cL {α : Type} (c : α → List D) (xs : List (List α)) : xs.all ((fun e => decide (e.length = 1)) ∘ cL c) = true := all_len (c := cL c) (fun _ => rfl) xs
@[simp] theorem all_take1 {α : Type} {l : List α} {p : α → Bool} {n : Nat} (h : l.all p = true) : (l.take n).all p = true := by
  rw [List.all_eq_true] at h ⊢
  exact fun x hx => h x (List.mem_of_mem_take hx)
@[simp] theorem all_drop1 {α : Type} {l : List α} {p : α → Bool} {n : Nat} (h : l.all p = true) : (l.drop n).all p = true := by
  rw [List.all_eq_true] at h ⊢
  exact fun x hx => h x (List.mem_of_mem_drop hx)

/-- a slice of zeros -/
def mkL {α : Type} (b : Nat) (n : Int) (z : α) : Option (List α) := if 0 ≤ n ∧ n.toNat * b ≤ Rp.reach then some (List.replicate n.toNat z) else none
theorem mkL_some {α : Type} {b : Nat} {n : Int} {z : α} {l : List α} (c : α → List D) (h : mkL b n z = some l) : 0 ≤ n ∧ l.length * b ≤ Rp.reach ∧ List.replicate l.length (c z) = l.map c ∧ n.toNat = l.length := by
  obtain ⟨h1, h2⟩ := gsome h
  injection h2 with h2
  subst h2
  exact ⟨h1.1, by simpa using h1.2, by simp, by simp⟩

/-! ### nil slices as data -/
def D.wk : D → D
  | .lit (.slice none 0 0) => .sl []
  | x => x
def V.wk1 : V → V
  | .d x => .d x.wk
  | v => v
def V.wk : V → V
  | .d x => .d x.wk
  | .agg cs => .agg (cs.map V.wk1)
  | v => v
theorem RD.wk {w : World} {Z : Nat → Prop} {x : D} {v : Value} (h : RD w Z x v) : RD w Z x.wk v := by
  unfold D.wk
  split
  · obtain ⟨rfl, _⟩ := h
    exact ⟨none, 0, rfl, Nat.le_refl _, Nat.zero_le _, fun _ => rfl, fun h => absurd rfl h⟩
  · exact h
theorem RV.wk1 {E : Env} {w : World} (c : V) (v : Value) (h : RV E w c v) : RV E w c.wk1 v := by
  cases c with
  | d x => exact RD.wk h
  | _ => exact h
theorem RV.wk {E : Env} {w : World} {c : V} {v : Value} (h : RV E w c v) : RV E w c.wk v := by
  cases c with
  | d x => exact RD.wk h
  | agg cs =>
    obtain ⟨vs, h1, h2, h3⟩ := h
    refine ⟨vs, h1, fun c hc => ?_, RVs.frz RV.wk1 h3⟩
    obtain ⟨x, hx, rfl⟩ := List.mem_map.1 hc
    have := h2 x hx
    cases x <;> first | rfl | exact this
  | _ => exact h
theorem RVs.wk {E : Env} {w : World} {cs : List V} {vs : List Value} (h : RVs E w cs vs) : RVs E w (cs.map V.wk) vs := RVs.frz (fun _ _ h => RV.wk h) h

theorem Sub.wk {S : St} (t : Nat) {v : V} (ht : S.sl t = v) : Sub S (S.setS t v.wk) := .of fun fx a w E m => by
  refine ⟨E, m.nt, fun i => ?_, m.dfr, m.ok, m.frame, m.mine, m.z, m.roots⟩
  show RV E w (if i = t then v.wk else S.sl i) _
  split
  · rename_i hi
    subst hi; subst ht
    exact RV.wk (m.slots i)
  · exact m.slots i

theorem FunC.wk {P : Program} {f : FuncId} {args : List V} {v : V} (h : FunC P f (args.map V.wk) v) : FunC P f args v :=
  ⟨h.1, fun w Z vals hz hv => h.2 w Z vals hz (RVs.wk hv)⟩
theorem FunC.args {P : Program} {f : FuncId} {args args' : List V} {v v' : V} (h : FunC P f args' v') (ha : args' = args.map V.wk) (hv : v' = v) : FunC P f args v := by
  subst ha; subst hv; exact h.wk
theorem FunC.res {P : Program} {f : FuncId} {args args' : List V} {v v' : V} (h : FunC P f args' v') (ha : args' = args) (hv : v' = v) : FunC P f args v := by
  subst ha; subst hv; exact h

/-! ### last pieces -/
section
variable {P : Program} {S : St} {β ρ : Type}
theorem AW.mono2 {c : Code} {Q Q' : Exit → St → Prop} (h : AW P c S Q') (hq : ∀ e S', Q' e S' → ∃ S1, Sub S' S1 ∧ Q e S1) : AW P c S Q := fun fx a w m => Code.wp_mono (fun e a' w' ⟨S', h1, h2⟩ => by
  obtain ⟨S1, hs, hQ⟩ := hq e S' h1
  exact ⟨S1, hQ, hs fx a' w' h2⟩) (h fx a w m)

theorem AW.lastJ {x : Code} {d : Option (Out β ρ)} {k : β → Option ρ} {r : ρ} {Q : Exit → St → Prop} (J : β → St) (h : bindO d k = some r) (h1 : ∀ o, d = some o → AW P x S (PostJ J r Q o))
    (h2 : ∀ b, k b = some r → Q .normal (J b)) : AW P x S Q := by
  cases hd : d with
  | none => rw [hd] at h; cases h
  | some o =>
    rw [hd] at h
    refine (h1 o hd).mono2 fun e S' hp => ?_
    cases o with
    | go b =>
      obtain ⟨rfl, hp⟩ := hp
      exact ⟨_, hp, h2 b h⟩
    | ret r' =>
      injection h with h
      exact ⟨S', Sub.refl _, hp.2 h⟩

theorem AW.lastN {x : Code} {d : Option β} {k : β → Option ρ} {r : ρ} {Q : Exit → St → Prop} (J : β → St) (h : d.bind k = some r) (h1 : ∀ o, d = some o → AW P x S (PostN J o))
    (h2 : ∀ b, k b = some r → Q .normal (J b)) : AW P x S Q := by
  obtain ⟨b, hd, hk⟩ := bsome h
  refine (h1 b hd).mono2 fun e S' hp => ?_
  obtain ⟨rfl, hp⟩ := hp
  exact ⟨_, hp, h2 b hk⟩

theorem thenQ_normal {K : St → Prop} {Q : Exit → St → Prop} (h : K S) : thenQ K Q .normal S := h
theorem thenQ_pass {K : St → Prop} {Q : Exit → St → Prop} {e : Exit} (he : e ≠ .normal) (h : Q e S) : thenQ K Q e S := by
  cases e with
  | normal => exact absurd rfl he
  | _ => exact h
end

theorem blockQ.hit {S : St} {id : Nat} {Q : Exit → St → Prop} (h : Q .normal S) : blockQ id Q (.exit id) S := by
  show (if id = id then _ else _)
  rw [if_pos rfl]; exact h
theorem blockQ.pass {S : St} {id id' : Nat} {Q : Exit → St → Prop} (hne : id' ≠ id) (h : Q (.exit id') S) : blockQ id Q (.exit id') S := by
  show (if id' = id then _ else _)
  rw [if_neg hne]; exact h
theorem blockQ.ret {S : St} {id : Nat} {Q : Exit → St → Prop} (h : Q .ret S) : blockQ id Q .ret S := h
theorem blockQ.normal {S : St} {id : Nat} {Q : Exit → St → Prop} (h : Q .normal S) : blockQ id Q .normal S := h

/-- an entry into a function with its arguments laid -/
theorem FunC.enter {P : Program} {f : FuncId} {fn : Func} {c : Code} {args : List V} {v : V} (nt : Nat) (l : List (Nat × V)) (hv : v.closed = true) (hf : P.funcs[f]? = some fn) (hb : fn.body = some c) (hle : args.length ≤ fn.ntmps) (hn : fn.ntmps = nt) (hl : enterL args 0 = l)
    (h : AW P c (mk nt [] l []) (FinC P fn v)) : FunC P f args v := by
  subst hn; subst hl
  exact FunC.fin hv hf hb hle h
attribute [simp] D.wk V.wk V.wk1 Go.Value.cells List.take_of_length_le
end Go.Ab
