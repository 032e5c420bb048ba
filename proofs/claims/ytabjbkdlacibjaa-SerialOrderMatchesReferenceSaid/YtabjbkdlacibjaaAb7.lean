/- The abstract machine: contracts, entering a function, calls. -/
import Derived.Test.YtabjbkdlacibjaaAb6
import Derived.Test.YtabjbkdlacibjaaOwn
namespace Go.Ab
open Go.RowKit

/-! ### tables of slots -/
def tlook : List (Nat × V) → Nat → V
  | [], _ => .junk
  | (k, v) :: r, i => if i = k then v else tlook r i
def hlook : List (Nat × Option Blk) → Heap
  | [], _ => none
  | (k, b) :: r, i => if i = k then b else hlook r i
def mk (nt : Nat) (rts : List Nat) (l : List (Nat × V)) (h : List (Nat × Option Blk)) : St := ⟨nt, rts, tlook l, hlook h⟩
def upd : List (Nat × V) → Nat → V → List (Nat × V)
  | [], d, v => [(d, v)]
  | (k, u) :: r, d, v => if k = d then (d, v) :: r else (k, u) :: upd r d v
theorem look_upd (l : List (Nat × V)) (d : Nat) (v : V) (i : Nat) : tlook (upd l d v) i = if i = d then v else tlook l i := by
  induction l with
  | nil => rfl
  | cons p r ih =>
    obtain ⟨k, u⟩ := p
    simp only [upd]
    by_cases hk : k = d
    · subst hk
      rw [if_pos rfl]
      simp only [tlook]
      split <;> simp_all
    · rw [if_neg hk]
      simp only [tlook, ih]
      by_cases hi : i = k
      · subst hi; rw [if_pos rfl, if_neg hk, if_pos rfl]
      · rw [if_neg hi, if_neg hi]
theorem mk_put {nt : Nat} {rts : List Nat} {l : List (Nat × V)} {h : List (Nat × Option Blk)} {d : Nat} {v : V} (hd : d < nt) : (mk nt rts l h).put (some d) v = mk nt rts (upd l d v) h := by
  simp only [mk, St.put]
  congr 1
  funext i
  rw [look_upd]
  by_cases hi : i = d
  · simp [hi, hd]
  · simp [hi]
theorem mk_put_none {nt : Nat} {rts : List Nat} {l : List (Nat × V)} {h : List (Nat × Option Blk)} {v : V} : (mk nt rts l h).put none v = mk nt rts l h := rfl
theorem mk_sl {nt : Nat} {rts : List Nat} {l : List (Nat × V)} {h : List (Nat × Option Blk)} {i : Nat} : (mk nt rts l h).sl i = tlook l i := rfl
theorem mk_hp {nt : Nat} {rts : List Nat} {l : List (Nat × V)} {h : List (Nat × Option Blk)} : (mk nt rts l h).hp = hlook h := rfl

/-! ### contracts -/
def lof (E : Env) (H : Heap) (b : Nat) : Prop := ∃ i, H i ≠ none ∧ (E.loc i).nil = false ∧ (E.loc i).b = b
def fxOf (w : World) (E : Env) (H : Heap) (rts : List Nat) : Fx := ⟨w, E.Z, lof E H, rts.map fun r => (r, E.loc r)⟩

structure Post (fx : Fx) (E : Env) (H : Heap) (w : World) : Prop where
  ok : E.ok H w
  frame : fx.frame w
  mine : ∀ i, H i ≠ none → (E.loc i).nil = false → fx.w0.heap.size ≤ (E.loc i).b ∨ fx.L (E.loc i).b
  z : ∀ b, E.Z b → fx.Z0 b ∨ fx.w0.heap.size ≤ b ∨ fx.L b
  roots : ∀ r ∈ fx.roots, E.loc r.1 = r.2

def Ctr (P : Program) (f : FuncId) (args : List V) (H0 : Heap) (rts : List Nat) (Q : V → Heap → Prop) : Prop :=
  ∀ (w : World) (E : Env) (vals : List Value), E.ok H0 w → RVs E w args vals →
    Calls P f vals.toArray w fun e w' => ∃ v E' r H1, e = .returned v ∧ Q r H1 ∧ RV E' w' r v ∧ Post (fxOf w E H0 rts) E' H1 w'

theorem Ctr.mono {P : Program} {f : FuncId} {args : List V} {H0 : Heap} {rts : List Nat} {Q Q' : V → Heap → Prop} (h : Ctr P f args H0 rts Q) (hq : ∀ r H, Q r H → Q' r H) : Ctr P f args H0 rts Q' :=
  fun w E vals ok hv => (h w E vals ok hv).mono fun _ _ ⟨v, E', r, H1, h1, h2, h3⟩ => ⟨v, E', r, H1, h1, hq _ _ h2, h3⟩

/-- what a function hands back -/
def resV (ty : TypeId → Option TI) (S : St) : ResultVar → Option V
  | .tmp t => some (S.sl t)
  | .cell a t => (ty t).bind fun ti => (cellsAt S.hp (S.sl a)).bind fun cs => ldV ti cs
def resL (ty : TypeId → Option TI) (S : St) : List ResultVar → Option (List V)
  | [] => some []
  | r :: rs => (resV ty S r).bind fun v => (resL ty S rs).map fun vs => v :: vs
def outV (ty : TypeId → Option TI) (rs : List ResultVar) (S : St) : Option V :=
  (resL ty S rs).map fun vs => match vs with
    | [v] => v
    | vs => .tup vs

def resS (tmps : Array Value) : ResultVar → Sem Value
  | .tmp t => pure (tmps.getD t undef)
  | .cell a t => do loadVar t (← asAddr (tmps.getD a undef))
theorem resL_sound {P : Program} {fx : Fx} {S : St} {E : Env} {a : Act} {w : World} (m : Mod fx S E a w) : ∀ (rs : List ResultVar) (vs : List V), resL (tyOf P) S rs = some vs →
    ∃ us, RVs E w vs us ∧ (rs.mapM (resS a.tmps)).run P w = .ok us w
  | [], vs, h => by
    injection h with h; subst h
    exact ⟨[], rfl, by simp⟩
  | r :: rs, vs, h => by
    simp only [resL] at h
    cases hr : resV (tyOf P) S r with
    | none => simp [hr] at h
    | some v =>
      cases hrs : resL (tyOf P) S rs with
      | none => simp [hr, hrs] at h
      | some vs' =>
        simp only [hr, hrs, Option.bind_some, Option.map_some, Option.some.injEq] at h
        subst h
        obtain ⟨us, h1, h2⟩ := resL_sound (P := P) m rs vs' hrs
        have one : ∃ u, RV E w v u ∧ (resS a.tmps r).run P w = .ok u w := by
          cases r with
          | tmp t =>
            injection hr with hr; subst hr
            exact ⟨_, m.slots t, rfl⟩
          | cell b t =>
            simp only [resV] at hr
            cases ht : tyOf P t with
            | none => simp [ht] at hr
            | some ti =>
              cases hc : cellsAt S.hp (S.sl b) with
              | none => simp [ht, hc] at hr
              | some cs =>
                simp only [ht, hc, Option.bind_some] at hr
                obtain ⟨b', o, us', hp, g1, g2, g3, g4⟩ := cellsAt_sound m.ok (m.slots b) hc
                obtain ⟨x, hx, hrun⟩ := run_loadAt (P := P) (w' := w) ht g1 g2 g3 hr
                refine ⟨x, hx, ?_⟩
                have := hrun w g2
                simp only [Instr.loadAt, Instr.sureAddr, Sem.run_bind, Sem.run_pure, Result.andThen_ok] at this
                simp [resS, hp, asAddr, this]
        obtain ⟨u, hu, hrun⟩ := one
        refine ⟨u :: us, ⟨u, us, rfl, hu, h1⟩, ?_⟩
        rw [List.mapM_cons]
        simp only [Sem.run_bind, hrun, Result.andThen_ok, h2, Sem.run_pure]

theorem outV_sound {P : Program} {fx : Fx} {S : St} {E : Env} {a : Act} {w : World} (m : Mod fx S E a w) {fn : Func} {r : V} (h : outV (tyOf P) fn.results.toList S = some r) : ∃ v, RV E w r v ∧ (results fn a.tmps).run P w = .ok v w := by
  unfold outV at h
  cases hl : resL (tyOf P) S fn.results.toList with
  | none => simp [hl] at h
  | some vs =>
    simp only [hl, Option.map_some, Option.some.injEq] at h
    obtain ⟨us, h1, h2⟩ := resL_sound (P := P) m _ _ hl
    have hrun : (results fn a.tmps).run P w = .ok (if h : us.toArray.size = 1 then us.toArray[0] else .tuple us.toArray) w := by
      have e : results fn a.tmps = (do let vs ← fn.results.mapM (resS a.tmps); pure (if h : vs.size = 1 then vs[0] else .tuple vs)) := by
        unfold results
        congr 1
      rw [e, Array.mapM_eq_mapM_toList]
      simp only [Sem.run_bind, map_eq_pure_bind, h2, Result.andThen_ok, Sem.run_pure]
    refine ⟨_, ?_, hrun⟩
    have hlen := RVs_length h1
    split at h
    · rename_i v
      subst h
      obtain ⟨u, r', hu, hv, hr'⟩ := h1
      have : r' = [] := hr'
      subst this; subst hu
      simpa using hv
    · rename_i hne
      subst h
      have hn1 : ¬ us.toArray.size = 1 := by
        intro h
        have hl1 : vs.length = 1 := by rw [← hlen]; simpa using h
        match vs, hl1 with
        | [v], _ => exact hne v rfl
      rw [dif_neg hn1]
      exact ⟨us, rfl, h1⟩

def enterL : List V → Nat → List (Nat × V)
  | [], _ => []
  | v :: vs, k => (k, v) :: enterL vs (k + 1)
theorem look_enter {E : Env} {w : World} : ∀ {args : List V} {vals : List Value} (k : Nat), RVs E w args vals → ∀ t, RV E w (tlook (enterL args k) t) (if k ≤ t then vals.getD (t - k) undef else undef)
  | [], _, k, h, t => trivial
  | v :: vs, _, k, ⟨u, r, h, h1, h2⟩, t => by
    subst h
    simp only [enterL, tlook]
    by_cases ht : t = k
    · subst ht; simpa using h1
    · rw [if_neg ht]
      have := look_enter (k + 1) h2 t
      by_cases hk : k + 1 ≤ t
      · rw [if_pos hk] at this
        rw [if_pos (by omega)]
        have e : t - k = (t - (k + 1)) + 1 := by omega
        rw [e]; simpa using this
      · rw [if_neg hk] at this
        rw [if_neg (by omega)]
        exact this

theorem Ctr.of {P : Program} {f : FuncId} {fn : Func} {c : Code} {args : List V} {h0 : List (Nat × Option Blk)} {rts : List Nat} {Q : V → Heap → Prop} (hf : P.funcs[f]? = some fn) (hb : fn.body = some c) (hle : args.length ≤ fn.ntmps)
    (h : AW P c (mk fn.ntmps rts (enterL args 0) h0) fun e S' => (e = .normal ∨ e = .ret) ∧ ∃ r, outV (tyOf P) fn.results.toList S' = some r ∧ Q r S'.hp) : Ctr P f args (hlook h0) rts Q := by
  intro w E vals ok hv
  have hlen := RVs_length hv
  refine calls_of_wp hf hb ?_
  have m : Mod (fxOf w E (hlook h0) rts) (mk fn.ntmps rts (enterL args 0) h0) E { tmps := vals.toArray ++ Array.replicate (fn.ntmps - vals.toArray.size) undef, defers := [] } w := by
    refine ⟨by simp [mk]; omega, fun t => ?_, rfl, ok, ⟨rfl, rfl, rfl, Nat.le_refl _, fun _ _ _ => rfl⟩, fun i hi hn => .inr ⟨i, hi, hn, rfl⟩, fun b hb => .inl hb, fun r hr => ?_⟩
    · have := look_enter 0 hv t
      simp only [Nat.zero_le, if_true, Nat.sub_zero] at this
      have e : (vals.toArray ++ Array.replicate (fn.ntmps - vals.toArray.size) undef).getD t undef = vals.getD t undef := by
        rw [Array.getD_eq_getD_getElem?, Array.getElem?_append]
        by_cases ht : t < vals.toArray.size
        · rw [if_pos ht]; simp [List.getD]
        · rw [if_neg ht, Array.getElem?_replicate]
          have : vals.getD t undef = undef := by simp [List.getD, List.getElem?_eq_none (by simpa using ht)]
          rw [this]
          split <;> rfl
      show RV E w (tlook (enterL args 0) t) ((vals.toArray ++ Array.replicate (fn.ntmps - vals.toArray.size) undef).getD t undef)
      rw [e]; exact this
    · obtain ⟨i, hi, rfl⟩ := List.mem_map.1 hr
      exact ⟨hi, rfl⟩
  refine Code.wp_mono ?_ (h _ _ _ ⟨E, m⟩)
  rintro e a' w' ⟨S', ⟨he, r, hr, hq⟩, E', m'⟩
  obtain ⟨v, hv', hrun⟩ := outV_sound m' hr
  rcases he with rfl | rfl
  · exact ⟨m'.dfr, v, hrun, v, E', r, S'.hp, rfl, hq, hv', m'.ok, m'.frame, m'.mine, m'.z, fun r hr => (m'.roots r hr).2⟩
  · exact ⟨m'.dfr, v, hrun, v, E', r, S'.hp, rfl, hq, hv', m'.ok, m'.frame, m'.mine, m'.z, fun r hr => (m'.roots r hr).2⟩
end Go.Ab
