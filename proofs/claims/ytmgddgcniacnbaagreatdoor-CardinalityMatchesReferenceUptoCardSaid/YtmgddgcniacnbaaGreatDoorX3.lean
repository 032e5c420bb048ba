/- An exact machine for closed calls: code and calls. An exact machine for closed calls: regions whose order is drawn. An exact machine for closed calls: states are compared; a block under another name. An exact machine for closed calls: regions whose order is drawn, with effects. An exact machine for closed calls: code and calls. An exact machine for closed calls: a call under a deferred recover that finds nothing. An exact machine for closed calls: calls that were reckoned before. -/
import Derived.Test.YtmgddgcniacnbaaGreatDoorX2
import Derived.Test.YtmgddgcniacnbaaGreatDoorA3
import Derived.Deep.Quiet
import Derived.OrdersHeld
import Derived.Recover
section
namespace Go.Xm
open Go.Ab Go.RowKit
structure XS where
  sl : Tr V
  H : XH
  nx : Nat
abbrev CallF := Pr → FuncId → List V → XH → Nat → Option (V × XH × Nat)
def nrm : V → V
  | .d (.lit .nilIface) => .d (.er false)
  | v => v
theorem nrm_sound {E : Env} {w : World} {v : V} {u : Value} (h : RV E w v u) : RV E w (nrm v) u := by
  unfold nrm
  split
  · obtain ⟨rfl, _⟩ := h; exact rfl
  · exact h
theorem nrm_lt {n : Nat} {v : V} (h : ltV n v = true) : ltV n (nrm v) = true := by
  unfold nrm
  split
  · rfl
  · exact h
def putS (nt nx : Nat) (sl : Tr V) (d : Option Tmp) (v : V) : Option (Tr V) :=
  match d with
  | none => some sl
  | some d => match Nat.blt d nt && ltV nx v with
    | true => some (sl.put d (nrm v))
    | false => none
def putX (nt : Nat) (X : XS) (d : Option Tmp) (v : V) : Option XS :=
  match putS nt X.nx X.sl d v with
  | some sl => some ⟨sl, X.H, X.nx⟩
  | none => none
def stX (nt : Nat) (X : XS) : St := stOf nt X.sl X.H
structure Pg where
  ty : TypeId → Option TI
  sq : List TypeId
def eqB (d : TypeDesc) (x y : Value) : Option Bool :=
  match d, x, y with
  | .int _, .int k a, .int k' b => match decide (k = k') with
    | true => some (a == b)
    | false => none
  | .bool, .bool a, .bool b => some (a == b)
  | .string, .string a, .string b => some (a.toList == b.toList)
  | _, _, _ => none
def eqFs (ty : TypeId → Option TI) (xs ys : Array Value) : List Field → Option Bool
  | [] => some true
  | f :: fs => match decide (f.name = "_"), ty f.type with
    | false, some tf => match isRow tf.desc, xs[f.offset]?, ys[f.offset]? with
      | false, some x, some y => match eqB tf.desc x y, eqFs ty xs ys fs with
        | some a, some b => some (a && b)
        | _, _ => none
      | _, _, _ => none
    | _, _ => none
def eqS (G : Pg) (S : St) (T : TypeId) (x y : Operand) : Option Bool :=
  match G.sq.contains T, G.ty T, S.ev x, S.ev y with
  | true, some ti, .agg cs, .agg ds => match ti.desc, litsOf cs, litsOf ds with
    | .struct fs, some xs, some ys => eqFs G.ty xs.toArray ys.toArray fs.toList
    | _, _, _ => none
  | _, _, _, _ => none
def pG (G : Pg) (S : St) (H : XH) (o : Op) : Option V :=
  match pX G.ty S H o with
  | some v => some v
  | none => match o with
    | .binOp .eql T x y _ => match eqS G S T x y with
      | some r => some (.d (.lit (.bool r)))
      | none => none
    | .binOp .neq T x y _ => match eqS G S T x y with
      | some r => some (.d (.lit (.bool !r)))
      | none => none
    | _ => none
def stepX (call : CallF) (G : Pg) (fl : Pr) (nt : Nat) (X : XS) (o : Oper) : Option XS :=
  match pG G (stX nt X) X.H o.op with
  | some v => putX nt X o.dst v
  | none => match eX G.ty (stX nt X) X.H fl X.nx o.op with
    | some (v, H, nx) => putX nt ⟨X.sl, H, nx⟩ o.dst v
    | none => match o.op with
      | .call c => match calleeV (stX nt X) c with
        | some (f, caps) => match ltL X.nx (c.args.toList.map (stX nt X).ev ++ caps) with
          | true => match call fl f (c.args.toList.map (stX nt X).ev ++ caps) X.H X.nx with
            | some (v, H, nx) => putX nt ⟨X.sl, H, nx⟩ o.dst v
            | none => none
          | false => none
        | none => none
      | _ => none
def opsX (call : CallF) (G : Pg) (fl : Pr) (nt : Nat) (ops : Array Oper) : List Oper → XS → Option XS
  | [], X => some X
  | o :: l, X => match wantedV ops (stX nt X) o with
    | some true => match stepX call G fl nt X o with
      | some X' => opsX call G fl nt ops l X'
      | none => none
    | some false => match putX nt X o.dst (.tup []) with
      | some X' => opsX call G fl nt ops l X'
      | none => none
    | none => none
def quX (call : CallF) (G : Pg) (nt : Nat) (ops : Array Oper) : List Oper → XS → Option XS
  | [], X => some X
  | o :: l, X => match wantedV ops (stX nt X) o with
    | some true => match pG G (stX nt X) X.H o.op with
      | some v => match putX nt X o.dst v with
        | some X' => quX call G nt ops l X'
        | none => none
      | none => match o.op with
        | .call c => match calleeV (stX nt X) c with
          | some (f, caps) => match ltL X.nx (c.args.toList.map (stX nt X).ev ++ caps) with
            | true => match call ⟨X.nx, []⟩ f (c.args.toList.map (stX nt X).ev ++ caps) X.H X.nx with
              | some (.d (.lit x), _, _) => match putX nt X o.dst (.d (.lit x)) with
                | some X' => quX call G nt ops l X'
                | none => none
              | _ => none
            | false => none
          | none => none
        | _ => none
    | some false => match putX nt X o.dst (.tup []) with
      | some X' => quX call G nt ops l X'
      | none => none
    | none => none
def SqOK (P : Program) (sq : List TypeId) : Prop := ∀ T ∈ sq, P.eqGuardType P.depth T = false ∧ P.stoodInHeld T = false
theorem eqFs_sound {P : Program} {d : Nat} {xs ys : Array Value} : ∀ (fs : List Field) {r : Bool}, eqFs (tyOf P) xs ys fs = some r → ∀ w, (Op.eqFields (d + 1) xs ys fs).run P w = .ok r w
  | [], r, h => by
    injection h with h; subst h
    exact eqF_nil
  | f :: fs, r, h => by
    unfold eqFs at h
    split at h
    · rename_i tf hn hT
      have hn : f.name ≠ "_" := of_decide_eq_false hn
      split at h
      · rename_i x y hr hx hy
        split at h
        · rename_i a b ha hb
          injection h with h; subst h
          refine eqF_cons hn (part_lit hT hr hx) (part_lit hT hr hy) ?_ (eqFs_sound fs hb)
          intro w
          have hu := (tyOf_spec hT).1
          unfold eqB at ha
          split at ha
          · rename_i hd
            split at ha
            · rename_i hk
              have hk := of_decide_eq_true hk
              subst hk
              injection ha with ha; subst ha
              rw [hd] at hu
              exact run_equalIn_int w d f.type _ _ _ _ hu
            · cases ha
          · rename_i hd
            injection ha with ha; subst ha
            rw [hd] at hu
            exact run_equalIn_bool w d f.type _ _ hu
          · rename_i hd
            injection ha with ha; subst ha
            rw [hd] at hu
            exact run_equalIn_string w d f.type _ _ hu
          · cases ha
        · cases h
      · cases h
    · cases h
theorem pG_any {P : Program} {sq : List TypeId} (hsq : SqOK P sq) {C : Cx} {nx nt : Nat} {sl : Tr V} {H : XH} {E : Env} {w : World} (hw : XW C nx H E w) {ρ : Operand → Value} (hev : ∀ x, RV E w ((stOf nt sl H).ev x) (ρ x)) {o : Op} {v : V} {oo : Oper} (ho : oo.op = o)
    (h : pG ⟨tyOf P, sq⟩ (stOf nt sl H) H o = some v) : ∃ u, RV E w v u ∧ ∀ w', (isLoad o = true → Below w.heap.size w w') → (execOp ρ oo).run P w' = .ok (.value u) w' := by
  have key : ∀ {T x y r}, eqS ⟨tyOf P, sq⟩ (stOf nt sl H) T x y = some r → ∃ xs ys : Array Value, ρ x = .agg xs ∧ ρ y = .agg ys ∧ P.eqGuardType P.depth T = false ∧ ∀ w, (Op.equalIn 10000 T (.agg xs) (.agg ys)).run P w = .ok r w := by
    intro T x y r h
    unfold eqS at h
    split at h
    · rename_i ti cs ds hT ht hx hy
      split at h
      · rename_i fs xs ys hd hcs hds
        have h1 := hev x
        rw [hx] at h1
        obtain ⟨vs, h1, _, h2⟩ := h1
        have h3 := hev y
        rw [hy] at h3
        obtain ⟨us, h3, _, h4⟩ := h3
        have e1 := litsOf_sound h2 hcs
        have e2 := litsOf_sound h4 hds
        subst e1; subst e2
        obtain ⟨q1, q2⟩ := hsq T (List.contains_iff_mem.1 hT)
        have hu : P.underlying T = some ti.desc := (tyOf_spec ht).1
        rw [hd] at hu
        have hf : P.fieldsOf T = fs := by simp [Program.fieldsOf, hu]
        exact ⟨_, _, h1, h3, q1, eqS_of (by rw [hf]; exact hu) q2 rfl (by rw [hf]; exact eqFs_sound _ h)⟩
      · cases h
    · cases h
  unfold pG at h
  split at h
  · rename_i v0 hv
    injection h with h; subst h
    exact pX_any hw hev ho hv
  · split at h
    · split at h
      · rename_i T x y _ _ r hr
        injection h with h; subst h
        obtain ⟨xs, ys, h1, h3, hm, he⟩ := key hr
        refine ⟨_, ⟨rfl, rfl⟩, fun w' _ => ?_⟩
        unfold execOp
        rw [ho]
        simp only [h1, h3]
        simp [run_eqGuard_agg _ _ _ _ _ _ _ hm, run_eql_struct, he]
      · cases h
    · split at h
      · rename_i T x y _ _ r hr
        injection h with h; subst h
        obtain ⟨xs, ys, h1, h3, hm, he⟩ := key hr
        refine ⟨_, ⟨rfl, rfl⟩, fun w' _ => ?_⟩
        unfold execOp
        rw [ho]
        simp only [h1, h3]
        simp [run_eqGuard_agg _ _ _ _ _ _ _ hm, run_neq_struct, he]
      · cases h
    · cases h
theorem pG_sound {P : Program} {sq : List TypeId} (hsq : SqOK P sq) {C : Cx} {nx nt : Nat} {sl : Tr V} {H : XH} {E : Env} {w : World} (hw : XW C nx H E w) {ρ : Operand → Value} (hev : ∀ x, RV E w ((stOf nt sl H).ev x) (ρ x)) {o : Op} {v : V} {oo : Oper} (ho : oo.op = o)
    (h : pG ⟨tyOf P, sq⟩ (stOf nt sl H) H o = some v) : ∃ u, RV E w v u ∧ ∀ w', Below w.heap.size w w' → (execOp ρ oo).run P w' = .ok (.value u) w' := by
  obtain ⟨u, h1, h2⟩ := pG_any hsq hw hev ho h
  exact ⟨u, h1, fun w' hb => h2 w' (fun _ => hb)⟩
structure XA (C : Cx) (nt : Nat) (X : XS) (E : Env) (a : Act) (w : World) : Prop where
  nt : a.tmps.size = nt
  slots : ∀ t, RV E w ((X.sl.get t).getD .junk) (a.tmps.getD t undef)
  lt : ∀ t v, X.sl.get t = some v → ltV X.nx v = true
  dfr : a.defers = C.df
  w : XW C X.nx X.H E w
def CallOK (P : Program) (call : CallF) : Prop :=
  ∀ fl f args H nx v H' nx', call fl f args H nx = some (v, H', nx') → Rp.Enters P f ∧ ∀ (C : Cx) (E : Env) (w : World) (vals : List Value), C.pr = fl → XW C nx H E w → ltL nx args = true → RVs E w args vals →
    Calls P f vals.toArray w fun e w' => ∃ u E', e = .returned u ∧ RV E' w' v u ∧ XW C nx' H' E' w' ∧ Agr nx E E' ∧ nx ≤ nx'
theorem XA.ev {C : Cx} {nt : Nat} {X : XS} {E : Env} {a : Act} {w : World} (m : XA C nt X E a w) (x : Operand) : RV E w ((stX nt X).ev x) (a.eval x) := by
  cases x with
  | tmp t => exact m.slots t
  | const v => exact litV_sound E w v
  | global g => trivial
  | func f => exact ⟨rfl, rfl⟩
theorem XA.move {C : Cx} {nt : Nat} {X : XS} {E E' : Env} {a : Act} {w w' : World} {H : XH} {nx : Nat} (m : XA C nt X E a w) (h : XW C nx H E' w') (ha : Agr X.nx E E') (hle : X.nx ≤ nx) : XA C nt ⟨X.sl, H, nx⟩ E' a w' where
  nt := m.nt
  slots := fun t => by
    show RV E' w' ((X.sl.get t).getD .junk) _
    cases hg : X.sl.get t with
    | none => trivial
    | some v =>
      have := m.slots t
      rw [hg] at this
      exact RV.agr ha m.w.z (fun b hb => absurd hb (m.w.z b)) _ _ (m.lt t v hg) this
  lt := fun t v hg => ltV_mono hle v (m.lt t v hg)
  dfr := m.dfr
  w := h
theorem XA.put {C : Cx} {nt : Nat} {X X' : XS} {E : Env} {a : Act} {w : World} (m : XA C nt X E a w) {d : Option Tmp} {v : V} {u : Value} (hp : putX nt X d v = some X') (hv : RV E w v u) : XA C nt X' E (a.put d u) w ∧ X'.nx = X.nx := by
  unfold putX putS at hp
  cases d with
  | none => 
    injection hp with hp
    subst hp
    exact ⟨m, rfl⟩
  | some d =>
    dsimp only at hp
    split at hp
    · rename_i sl hs
      split at hs
      · rename_i hc
        simp only [Bool.and_eq_true] at hc
        have hd := blt_iff.1 hc.1
        injection hs with hs
        injection hp with hp
        subst hs; subst hp
        refine ⟨⟨by simp [Act.put, m.nt], fun t => ?_, fun t x hg => ?_, m.dfr, m.w⟩, rfl⟩
        · show RV E w (((X.sl.put d (nrm v)).get t).getD .junk) _
          rw [Tr.get_put]
          by_cases ht : t = d
          · subst ht
            rw [if_pos rfl]
            have : (a.put (some t) u).tmps.getD t undef = u := by
              have h2 : t < a.tmps.size := by rw [m.nt]; exact hd
              simp [Act.put, Array.getD_eq_getD_getElem?, h2]
            rw [this]
            exact nrm_sound hv
          · rw [if_neg ht]
            have : (a.put (some d) u).tmps.getD t undef = a.tmps.getD t undef := by
              simp [Act.put, Array.getD_eq_getD_getElem?, Array.getElem?_setIfInBounds_ne (Ne.symm ht)]
            rw [this]
            exact m.slots t
        · rw [show (XS.mk (X.sl.put d (nrm v)) X.H X.nx).sl = X.sl.put d (nrm v) from rfl, Tr.get_put] at hg
          split at hg
          · injection hg with hg; subst hg; exact nrm_lt hc.2
          · exact m.lt t x hg
      · cases hs
    · cases hp
theorem XA.wanted {C : Cx} {nt : Nat} {X : XS} {E : Env} {a : Act} {w : World} (m : XA C nt X E a w) {ops : Array Oper} {o : Oper} {b : Bool} (h : wantedV ops (stX nt X) o = some b) : Region.wanted o (yielded ops a.tmps) = b := by
  unfold wantedV at h
  unfold Region.wanted
  split at h
  · rename_i hg
    injection h with h; subst h
    simp [hg]
  · rename_i j want hg
    simp only [hg]
    split at h
    · rename_i t ht
      have hs := m.slots t
      split at h
      · rename_i c hc
        injection h with h; subst h
        have hc : (X.sl.get t).getD .junk = .d (.lit (.bool c)) := hc
        rw [hc] at hs
        have hs := RD_lit hs
        have : a.tmps[t]? = some (.bool c) := by
          rw [Array.getD_eq_getD_getElem?] at hs
          cases hq : a.tmps[t]? with
          | none => rw [hq] at hs; cases hs
          | some v => rw [hq] at hs; simp at hs; rw [hs]
        simp [yielded, ht, this]
      · rename_i hc
        injection h with h; subst h
        have hc : (X.sl.get t).getD .junk = .tup [] := hc
        rw [hc] at hs
        obtain ⟨vs, h1, h2⟩ := hs
        have h2 : vs = [] := h2
        subst h2
        rw [Array.getD_eq_getD_getElem?] at h1
        cases hq : a.tmps[t]? with
        | none => simp [yielded, ht, hq]
        | some v => rw [hq] at h1; simp at h1; subst h1; simp [yielded, ht, hq]
      · cases h
    · cases h
theorem RVs_mapE {E : Env} {w : World} {ρ : Operand → Value} {ev : Operand → V} (hev : ∀ x, RV E w (ev x) (ρ x)) : ∀ l : List Operand, RVs E w (l.map ev) (l.map ρ)
  | [] => rfl
  | x :: l => ⟨_, _, rfl, hev x, RVs_mapE hev l⟩
theorem XA.later {C : Cx} {nt : Nat} {X : XS} {E : Env} {a : Act} {w w' : World} (m : XA C nt X E a w) (hb : Below w.heap.size w w') : XA C nt X E a w' := m.move (m.w.later hb) (Agr.refl _ _) (Nat.le_refl _)
section
variable {P : Program} {sq : List TypeId} (hsq : SqOK P sq) {call : CallF} (hcall : CallOK P call) {C : Cx} {nt : Nat}
include hsq hcall
theorem stepX_sound {X X' : XS} {E : Env} {a : Act} {w : World} (m : XA C nt X E a w) {o : Oper} (h : stepX call ⟨tyOf P, sq⟩ C.pr nt X o = some X') {K : Act → World → Prop} {Q : Exit → Act → World → Prop}
    (hK : ∀ E' a' w', XA C nt X' E' a' w' → Agr X.nx E E' → X.nx ≤ X'.nx → K a' w') : o.wp P a w K Q := by
  unfold stepX at h
  split at h
  · rename_i v hv
    obtain ⟨u, hu, hrun⟩ := pG_sound hsq m.w m.ev rfl hv
    obtain ⟨m', hn⟩ := m.put h hu
    unfold Oper.wp
    rw [hrun w (Below.refl _ _)]
    exact hK E _ _ m' (Agr.refl _ _) (by omega)
  · split at h
    · rename_i v H nx hv
      obtain ⟨N, u, w', E', hrun, hy, hu, hw, ha, hle⟩ := eX_sound m.w m.ev rfl hv
      obtain ⟨m', hn⟩ := (m.move hw ha hle).put h hu
      have hK' := hK E' _ _ m' ha (by rw [hn]; exact hle)
      unfold Oper.wp
      rw [hrun]
      rcases hy with rfl | ⟨rfl, rfl⟩
      · exact hK'
      · exact hK'
    · split at h
      · rename_i c hop
        split at h
        · rename_i f caps hcal
          split at h
          · rename_i hlt
            split at h
            · rename_i v H nx hv
              obtain ⟨hent, hc⟩ := hcall _ _ _ _ _ _ _ _ hv
              obtain ⟨cv, hcv, hrun⟩ := calleeV_sound (P := P) m.ev hcal hent hop
              unfold Oper.wp
              rw [hrun w]
              refine (hc C E w _ rfl m.w hlt (RVs_append (RVs_mapE m.ev _) hcv)).mono ?_
              rintro e w' ⟨u, E', rfl, hu, hw, ha, hle⟩
              obtain ⟨m', hn⟩ := (m.move hw ha hle).put h hu
              exact hK E' _ _ m' ha (by rw [hn]; exact hle)
            · cases h
          · cases h
        · cases h
      · cases h
theorem opsX_sound {ops : Array Oper} {Q : Exit → Act → World → Prop} : ∀ (l : List Oper) {X X' : XS} {E : Env} {a : Act} {w : World}, XA C nt X E a w → opsX call ⟨tyOf P, sq⟩ C.pr nt ops l X = some X' →
    (∀ E' a' w', XA C nt X' E' a' w' → Agr X.nx E E' → X.nx ≤ X'.nx → Q .normal a' w') → wpList P ops Q l a w
  | [], X, X', E, a, w, m, h, hQ => by
    injection h with h; subst h
    exact hQ E a w m (Agr.refl _ _) (Nat.le_refl _)
  | o :: l, X, X', E, a, w, m, h, hQ => by
    simp only [opsX] at h
    unfold wpList
    split at h
    · rename_i hw
      rw [if_pos (m.wanted hw)]
      split at h
      · rename_i X1 h1
        refine .inl (stepX_sound hsq hcall m h1 fun E1 a1 w1 m1 g1 g2 => opsX_sound l m1 h fun E' a' w' m' k1 k2 => hQ E' a' w' m' (g1.trans g2 k1) (Nat.le_trans g2 k2))
      · cases h
    · rename_i hw
      rw [if_neg (by rw [m.wanted hw]; decide)]
      split at h
      · rename_i X1 h1
        obtain ⟨m1, hn⟩ := m.put (u := undef) h1 ⟨[], rfl, rfl⟩
        exact opsX_sound l m1 h fun E' a' w' m' k1 k2 => hQ E' a' w' m' (by rw [hn] at k1; exact k1) (by omega)
      · cases h
    · cases h
theorem quX_sound {ops : Array Oper} {w : World} {Q : Act → Prop} {E : Env} : ∀ (l : List Oper) {X X' : XS} {a : Act}, XA C nt X E a w → quX call ⟨tyOf P, sq⟩ nt ops l X = some X' →
    (∀ a', XA C nt X' E a' w → X'.nx = X.nx → Q a') → wpQuiet P ops (Below w.heap.size w) Q l a
  | [], X, X', a, m, h, hQ => by
    injection h with h; subst h
    exact hQ a m rfl
  | o :: l, X, X', a, m, h, hQ => by
    simp only [quX] at h
    unfold wpQuiet
    split at h
    · rename_i hw
      rw [if_pos (m.wanted hw)]
      split at h
      · rename_i v hv
        split at h
        · rename_i X1 h1
          obtain ⟨u, hu, hrun⟩ := pG_sound hsq m.w m.ev rfl hv
          obtain ⟨m1, hn⟩ := m.put h1 hu
          refine ⟨u, fun w' hb => ?_, quX_sound l m1 h fun a' m' k => hQ a' m' (by omega)⟩
          unfold Oper.quietAt
          rw [hrun w' hb]
          exact ⟨rfl, rfl⟩
        · cases h
      · split at h
        · rename_i c hop
          split at h
          · rename_i f caps hcal
            split at h
            · rename_i hlt
              split at h
              · rename_i x H nx hv
                split at h
                · rename_i X1 h1
                  obtain ⟨hent, hc⟩ := hcall _ _ _ _ _ _ _ _ hv
                  obtain ⟨cv, hcv, hrun⟩ := calleeV_sound (P := P) m.ev hcal hent hop
                  have key : ∀ w', Below w.heap.size w w' → Calls P f ((c.args.toList.map a.eval) ++ cv).toArray w' fun e w'' => (e = .returned x ∧ plain x = true) ∧ Below w.heap.size w w'' := fun w' hb => by
                    have hx := m.w.later hb
                    have hro : XW ⟨w', ⟨X.nx, []⟩, fun _ => 0, fun _ => none, []⟩ X.nx X.H E w' := ⟨hx.hold, hx.lt, hx.inj, fun i hi hg => by
                      cases hq : X.H.get i with
                      | none => exact absurd hq hg
                      | some b => have := (hx.lt i b hq).1; exact absurd (Nat.lt_of_lt_of_le this hi) (Nat.lt_irrefl _), hx.z, hx.xs, Below.refl _ _, fun i hi => by cases hi⟩
                    have hargs : RVs E w' (c.args.toList.map (stX nt X).ev ++ caps) ((c.args.toList.map a.eval) ++ cv) := RVs.agr (Agr.refl X.nx E) m.w.z (fun _ h => h) _ _ hlt (RVs_append (RVs_mapE m.ev _) hcv)
                    refine (hc _ E w' _ rfl hro hlt hargs).mono ?_
                    rintro e w'' ⟨u, E', rfl, hu, hw', _, _⟩
                    obtain ⟨rfl, hp⟩ := hu
                    exact ⟨⟨rfl, hp⟩, Below.trans hb (Below.mono (show Below w'.heap.size w' w'' from hw'.below) hb.size)⟩
                  by_cases hp : plain x = true
                  · obtain ⟨m1, hn⟩ := m.put (u := x) h1 ⟨rfl, hp⟩
                    refine ⟨x, fun w' hb => ?_, quX_sound l m1 h fun a' m' k => hQ a' m' (by omega)⟩
                    unfold Oper.quietAt
                    rw [hrun w']
                    exact ⟨rfl, (key w' hb).mono fun e w'' he => ⟨he.1.1, he.2⟩⟩
                  · obtain ⟨e, w'', fr, he, _⟩ := key w (Below.refl _ _) []
                    exact absurd he.1.2 hp
                · cases h
              · cases h
            · cases h
          · cases h
        · cases h
    · rename_i hw
      rw [if_neg (by rw [m.wanted hw]; decide)]
      split at h
      · rename_i X1 h1
        obtain ⟨m1, hn⟩ := m.put (u := undef) h1 ⟨[], rfl, rfl⟩
        exact quX_sound l m1 h fun a' m' k => hQ a' m' (by omega)
      · cases h
    · cases h
end
end Go.Xm
end
section
namespace Go.Xm
open Go.Ab Go.RowKit
section
variable {P : Program} {ops : Array Oper} {Q : Exit → Act → World → Prop} {md : Region.Mode} {S T : Array Bool → World → Prop}
def wpAnyS (P : Program) (md : Region.Mode) (ops : Array Oper) (Q : Exit → Act → World → Prop) (S : Array Bool → World → Prop) : Nat → Array Bool → Act → World → Prop
  | 0, listed, a, w => Region.ready md ops listed = [] ∧ Q .normal a w
  | fuel + 1, listed, a, w =>
    (Region.ready md ops listed = [] → Q .normal a w) ∧
    ∀ i ∈ Region.ready md ops listed, wpOp P ops Q i (fun a' w' => S (listed.setIfInBounds i true) w' ∧ wpAnyS P md ops Q S fuel (listed.setIfInBounds i true) a' w') a w
theorem wpAny_of_S : ∀ (fuel : Nat) (listed : Array Bool) (a : Act) (w : World), wpAnyS P md ops Q S fuel listed a w → wpAny P md ops Q fuel listed a w
  | 0, _, _, _, h => h
  | fuel + 1, _, _, _, h => ⟨h.1, fun i hi => wpOp_mono (fun a' w' h' => wpAny_of_S fuel _ a' w' h'.2) (h.2 i hi)⟩
theorem yieldsIf_weaken {S S' : World → Prop} {o : Oper} {v : Value} {a : Act} (hy : YieldsIf P ops S o v a) (h : ∀ w, S' w → S w) : YieldsIf P ops S' o v a :=
  hy.imp (fun ⟨h1, h2⟩ => ⟨h1, fun w hw => h2 w (h w hw)⟩) id
theorem wpAnyS_first {i : Nat} {oi : Oper} {v : Value} (hi : ops[i]? = some oi) (hsel : ∀ (j : Nat) (o : Oper) cs b, ops[j]? = some o → o.op ≠ .select cs b)
    (hQ : ∀ c a w, Q (.panic c) (a.put oi.dst v) w → Q (.panic c) a w) {I : Array Bool → Prop}
    (hI : ∀ listed j, I listed → j ∈ Region.ready md ops listed → I (listed.setIfInBounds j true))
    (hS1 : ∀ listed j w, S listed w → S (listed.setIfInBounds j true) w)
    (hS3 : ∀ listed j w, I listed → i ∈ Region.ready md ops listed → j ∈ Region.ready md ops listed → j ≠ i → S ((listed.setIfInBounds i true).setIfInBounds j true) w → S (listed.setIfInBounds j true) w)
    (hT : ∀ listed j w, I listed → i ∈ Region.ready md ops listed → j ∈ Region.ready md ops listed → j ≠ i → T (listed.setIfInBounds j true) w → T listed w)
    (hTS : ∀ listed w, S listed w → T listed w) :
    ∀ (fuel : Nat) (listed : Array Bool) (a : Act) (w : World), I listed →
      (∀ j oj, ops[j]? = some oj → j ≠ i → listed.getD j true = false → (∀ e ∈ oj.after, Region.binds md e = true → e.on ≠ i) → oi.apart ops oj = true) →
      i ∈ Region.ready md ops listed → YieldsIf P ops (T listed) oi v a → S listed w →
      wpAnyS P md ops Q S fuel (listed.setIfInBounds i true) (a.put oi.dst v) w → wpAnyS P md ops Q S (fuel + 1) listed a w := by
  intro fuel
  induction fuel with
  | zero =>
    intro listed a w _ _ hr hy hS H
    refine ⟨fun h => (by rw [h] at hr; cases hr), fun j hj => ?_⟩
    by_cases hji : j = i
    · subst hji; exact hy.wpOp hi (hTS _ _ hS) ⟨hS1 _ _ _ hS, H⟩
    · have := ready_mono hj hji
      rw [H.1] at this
      cases this
  | succ fuel ih =>
    intro listed a w hIl hfree hr hy hS H
    refine ⟨fun h => (by rw [h] at hr; cases hr), fun j hj => ?_⟩
    by_cases hji : j = i
    · subst hji; exact hy.wpOp hi (hTS _ _ hS) ⟨hS1 _ _ _ hS, H⟩
    · have h1 := H.2 j (ready_mono hj hji)
      obtain ⟨hjun, oj, hoj, hall⟩ := mem_ready.1 hj
      have hnot : ∀ e ∈ oj.after, Region.binds md e = true → e.on ≠ i := fun e he hb heq => by
        have h1 := hall e he hb
        have h0 := (mem_ready.1 hr).1
        rw [heq] at h1
        rcases Nat.lt_or_ge i listed.size with h' | h'
        · simp [h'] at h0 h1; rw [h0] at h1; cases h1
        · simp [Array.getElem?_eq_none h'] at h1
      have h2 := wpOp_putIf hoj (hfree j oj hoj hji hjun hnot) (fun cs b => hsel i oi cs b hi) (fun cs b => hsel j oj cs b hoj) hQ hy h1
      have hfree' : ∀ k ok, ops[k]? = some ok → k ≠ i → (listed.setIfInBounds j true).getD k true = false →
          (∀ e ∈ ok.after, Region.binds md e = true → e.on ≠ i) → oi.apart ops ok = true := fun k ok hk hki hun hno => by
        refine hfree k ok hk hki ?_ hno
        by_cases hjk : j = k
        · subst hjk; exact hjun
        · rw [getD_set_ne true hjk] at hun; exact hun
      refine wpOp_mono (fun a' w' h3 => ?_) h2
      have hS' := hS3 listed j w' hIl hr hj hji h3.2.1
      refine ⟨hS', ih (listed.setIfInBounds j true) a' w' (hI listed j hIl hj) hfree' (ready_mono hr (Ne.symm hji)) (yieldsIf_weaken h3.1 (fun w'' => hT listed j w'' hIl hr hj hji)) hS' ?_⟩
      rw [Array.setIfInBounds_comm _ _ hji]
      exact h3.2.2
theorem wpAnyS_done {listed : Array Bool} {a : Act} {w : World} (hr : Region.ready md ops listed = []) (h : Q .normal a w) : ∀ fuel, wpAnyS P md ops Q S fuel listed a w
  | 0 => ⟨hr, h⟩
  | _ + 1 => ⟨fun _ => h, by rw [hr]; simp⟩
def reachX (ops : Array Oper) : Nat → Nat → Nat → Bool
  | 0, _, _ => false
  | k + 1, t, i => match ops[t]? with
    | some o => o.after.toList.any fun e => Region.binds .any e && (Nat.beq e.on i || reachX ops k e.on i)
    | none => false
structure Wtd (ops : Array Oper) (listed : Array Bool) : Prop where
  size : listed.size = ops.size
  dc : ∀ t o, ops[t]? = some o → listed.getD t false = true → ∀ e ∈ o.after, Region.binds .any e = true → listed.getD e.on false = true
theorem Wtd.reach {ops : Array Oper} {listed : Array Bool} (h : Wtd ops listed) {i : Nat} : ∀ (k t : Nat), reachX ops k t i = true → listed.getD t false = true → listed.getD i false = true
  | 0, t, hr, _ => by simp [reachX] at hr
  | k + 1, t, hr, ht => by
    unfold reachX at hr
    split at hr
    · rename_i o ho
      obtain ⟨e, he, hb⟩ := List.any_eq_true.1 hr
      rw [Bool.and_eq_true, Bool.or_eq_true] at hb
      have hl := h.dc t o ho ht e (Array.mem_toList_iff.1 he) hb.1
      rcases hb.2 with hb2 | hb2
      · rw [← Nat.eq_of_beq_eq_true hb2]; exact hl
      · exact Wtd.reach h k e.on hb2 hl
    · cases hr
theorem Wtd.init (ops : Array Oper) : Wtd ops (Array.replicate ops.size false) :=
  ⟨by simp, fun t o _ ht => by
    rw [Array.getD_eq_getD_getElem?] at ht
    by_cases hlt : t < ops.size
    · simp [hlt] at ht
    · simp [hlt] at ht⟩
theorem getD_ft {listed : Array Bool} {i : Nat} (h : listed.getD i true = false) : i < listed.size ∧ listed.getD i false = false := by
  rcases Nat.lt_or_ge i listed.size with h' | h'
  · simp [h'] at h ⊢; exact h
  · simp [Array.getElem?_eq_none h'] at h
theorem Wtd.set {listed : Array Bool} (h : Wtd ops listed) {j : Nat} (hj : j ∈ Region.ready .any ops listed) : Wtd ops (listed.setIfInBounds j true) := by
  obtain ⟨hun, o, ho, hall⟩ := mem_ready.1 hj
  refine ⟨by simp [h.size], fun t o' ho' ht e he hb => ?_⟩
  by_cases htj : t = j
  · subst htj
    rw [ho] at ho'; injection ho' with ho'; subst ho'
    exact getD_set_true (hall e he hb)
  · rw [getD_set_ne false (Ne.symm htj)] at ht
    exact getD_set_true (h.dc t o' ho' ht e he hb)
def headB (ops : Array Oper) (n : Nat) : Bool := (List.range ops.size).all fun t => Nat.blt t n || (List.range n).all fun i => reachX ops ops.size t i
theorem headB_spec {n : Nat} (h : headB ops n = true) {t i : Nat} (ht : t < ops.size) (hn : n ≤ t) (hi : i < n) : reachX ops ops.size t i = true := by
  have h1 := List.all_eq_true.1 h t (List.mem_range.2 ht)
  rw [Bool.or_eq_true] at h1
  rcases h1 with h1 | h1
  · exact absurd (blt_iff.1 h1) (by omega)
  · exact List.all_eq_true.1 h1 i (List.mem_range.2 hi)
def NoTail (n : Nat) (listed : Array Bool) : Prop := ∀ t, n ≤ t → listed.getD t false = false
theorem NoTail.head {n : Nat} (hh : headB ops n = true) {listed : Array Bool} (h : Wtd ops listed) {i : Nat} (hi : i ∈ Region.ready .any ops listed) (hin : i < n) : NoTail n listed := by
  intro t ht
  cases hq : listed.getD t false with
  | false => rfl
  | true =>
    have hlt : t < ops.size := by
      rcases Nat.lt_or_ge t listed.size with h' | h'
      · rw [← h.size]; exact h'
      · simp [Array.getElem?_eq_none h'] at hq
    have := h.reach _ _ (headB_spec hh hlt ht hin) hq
    rw [(getD_ft (mem_ready.1 hi).1).2] at this
    cases this
theorem Wtd.both {n : Nat} (hh : headB ops n = true) {listed : Array Bool} (h : Wtd ops listed) {i j : Nat} (hi : i ∈ Region.ready .any ops listed) (hj : j ∈ Region.ready .any ops listed) (hin : i < n) : j < n := by
  rcases Nat.lt_or_ge j n with h' | h'
  · exact h'
  · have hlt : j < ops.size := by
      obtain ⟨_, o, ho, _⟩ := mem_ready.1 hj
      exact (Array.getElem?_eq_some_iff.1 ho).1
    have := (h.set hj).reach _ _ (headB_spec hh hlt h' hin) (by
      have := (getD_ft (mem_ready.1 hj).1).1
      simp [this])
    rw [getD_set_ne false (by omega), (getD_ft (mem_ready.1 hi).1).2] at this
    cases this
theorem NoTail.set_iff {n j : Nat} {listed : Array Bool} (hj : j < n) : NoTail n (listed.setIfInBounds j true) ↔ NoTail n listed := by
  constructor
  · intro h t ht
    have := h t ht
    rwa [getD_set_ne false (by omega)] at this
  · intro h t ht
    rw [getD_set_ne false (by omega)]
    exact h t ht
theorem NoTail.of_set {n j : Nat} {listed : Array Bool} (h : NoTail n (listed.setIfInBounds j true)) : NoTail n listed := by
  intro t ht
  cases hq : listed.getD t false with
  | false => rfl
  | true =>
    have := h t ht
    rw [getD_set_true hq] at this
    cases this
theorem NoTail.not_set {n j : Nat} {listed : Array Bool} (hj : j < listed.size) (hn : n ≤ j) : ¬ NoTail n (listed.setIfInBounds j true) := fun h => by
  have := h j hn
  simp [hj] at this
def Held (n : Nat) (S0 : World → Prop) (listed : Array Bool) (w : World) : Prop := NoTail n listed → S0 w
theorem Held.set {n : Nat} {S0 : World → Prop} {listed : Array Bool} {w : World} (j : Nat) (h : Held n S0 listed w) : Held n S0 (listed.setIfInBounds j true) w := fun hn => h hn.of_set
theorem held_load {n : Nat} {S0 : World → Prop} (hh : headB ops n = true) {i : Nat} {oi : Oper} {v : Value} (hi : ops[i]? = some oi) (hin : i < n) (hsel : Region.noSelect ops = true)
    {listed : Array Bool} (hw : Wtd ops listed) (hf : Region.free .any ops listed i = true) (hr : i ∈ Region.ready .any ops listed)
    {a : Act} (hQ : ∀ c a w, Q (.panic c) (a.put oi.dst v) w → Q (.panic c) a w) {fuel : Nat} {w : World} (hy : YieldsIf P ops (Held n S0 listed) oi v a) (hS : Held n S0 listed w)
    (h : wpAnyS P .any ops Q (Held n S0) fuel (listed.setIfInBounds i true) (a.put oi.dst v) w) : wpAnyS P .any ops Q (Held n S0) (fuel + 1) listed a w := by
  refine wpAnyS_first (T := Held n S0) hi (Region.noSelect_spec hsel) hQ (I := Wtd ops) (fun _ _ h hj => h.set hj) (fun _ j _ h => h.set j) ?_ ?_ (fun _ _ h => h) fuel listed a w hw (Region.free_spec hi hf) hr hy hS h
  · intro l j w' _ _ _ hji h hn
    refine h ?_
    rw [Array.setIfInBounds_comm _ _ (Ne.symm hji)]
    exact (NoTail.set_iff hin).2 hn
  · intro l j w' hI hi' hj hji h hn
    exact h ((NoTail.set_iff (hI.both hh hi' hj hin)).2 hn)
theorem held_pure {n : Nat} {S0 : World → Prop} (hh : headB ops n = true) {i : Nat} {oi : Oper} {v : Value} (hi : ops[i]? = some oi) (hsel : Region.noSelect ops = true)
    {listed : Array Bool} (hw : Wtd ops listed) (hf : Region.free .any ops listed i = true) (hr : i ∈ Region.ready .any ops listed)
    {a : Act} (hQ : ∀ c a w, Q (.panic c) (a.put oi.dst v) w → Q (.panic c) a w) {fuel : Nat} {w : World} (hy : YieldsIf P ops (fun _ => True) oi v a) (hS : Held n S0 listed w)
    (h : wpAnyS P .any ops Q (Held n S0) fuel (listed.setIfInBounds i true) (a.put oi.dst v) w) : wpAnyS P .any ops Q (Held n S0) (fuel + 1) listed a w := by
  refine wpAnyS_first (T := fun _ _ => True) hi (Region.noSelect_spec hsel) hQ (I := Wtd ops) (fun _ _ h hj => h.set hj) (fun _ j _ h => h.set j) ?_ (fun _ _ _ _ _ _ _ h => h) (fun _ _ _ => trivial) fuel listed a w hw (Region.free_spec hi hf) hr hy hS h
  intro l j w' hI hi' hj hji h hn
  rcases Nat.lt_or_ge i n with hin | hin
  · refine h ?_
    rw [Array.setIfInBounds_comm _ _ (Ne.symm hji)]
    exact (NoTail.set_iff hin).2 hn
  · rcases Nat.lt_or_ge j n with hjn | hjn
    · exact absurd (hI.both hh hj hi' hjn) (by omega)
    · exact absurd hn (NoTail.not_set (getD_ft (mem_ready.1 hj).1).1 hjn)
end
end Go.Xm
end
section
namespace Go.Xm
open Go.Ab Go.RowKit
def eqLit : Value → Value → Bool
  | .int k a, .int k' b => decide (k = k') && decide (a = b)
  | .string a, .string b => decide (a.data.toList = b.data.toList)
  | .bool a, .bool b => decide (a = b)
  | .nilIface, .nilIface => true
  | .nilFunc, .nilFunc => true
  | .slice none a b, .slice none c d => Nat.beq a c && Nat.beq b d
  | .pointer none, .pointer none => true
  | .map none, .map none => true
  | .func f a b, .func g c d => decide (f = g) && a.isEmpty && b.isEmpty && c.isEmpty && d.isEmpty
  | _, _ => false
theorem eqLit_eq {a b : Value} (h : eqLit a b = true) : a = b := by
  unfold eqLit at h
  split at h <;> simp only [Bool.and_eq_true, decide_eq_true_eq, Nat.beq_eq, Bool.false_eq_true] at h
  · rw [h.1, h.2]
  · rename_i x y
    have : x.data = y.data := Array.toList_inj.1 h
    cases x; cases y; simp_all
  · rw [h]
  · rfl
  · rfl
  · rw [h.1, h.2]
  · rfl
  · rfl
  · rename_i f a b g c d
    obtain ⟨⟨⟨⟨h1, h2⟩, h3⟩, h4⟩, h5⟩ := h
    rw [h1, Array.isEmpty_iff.1 h2, Array.isEmpty_iff.1 h3, Array.isEmpty_iff.1 h4, Array.isEmpty_iff.1 h5]
mutual
def eqV : V → V → Bool
  | .d (.lit a), y => match y with
    | .d (.lit b) => eqLit a b
    | _ => false
  | .d (.er a), y => match y with
    | .d (.er b) => decide (a = b)
    | _ => false
  | .ref i o l, y => match y with
    | .ref i' o' l' => Nat.beq i i' && Nat.beq o o' && Nat.beq l l'
    | _ => false
  | .ptr i o l, y => match y with
    | .ptr i' o' l' => Nat.beq i i' && Nat.beq o o' && Nat.beq l l'
    | _ => false
  | .agg a, y => match y with
    | .agg b => eqVs a b
    | _ => false
  | .tup a, y => match y with
    | .tup b => eqVs a b
    | _ => false
  | .fn f a, y => match y with
    | .fn g b => decide (f = g) && eqVs a b
    | _ => false
  | .hole, y => match y with
    | .hole => true
    | _ => false
  | .junk, y => match y with
    | .junk => true
    | _ => false
  | _, _ => false
def eqVs : List V → List V → Bool
  | [], y => match y with
    | [] => true
    | _ => false
  | a :: l, y => match y with
    | b :: m => eqV a b && eqVs l m
    | _ => false
end
mutual
theorem eqV_eq : ∀ (a b : V), eqV a b = true → a = b
  | .d (.lit a), b, h => by
    unfold eqV at h
    split at h
    · rw [eqLit_eq h]
    · cases h
  | .d (.er a), b, h => by
    unfold eqV at h
    split at h
    · rw [of_decide_eq_true h]
    · cases h
  | .ref i o l, b, h => by
    unfold eqV at h
    split at h
    · simp only [Bool.and_eq_true, Nat.beq_eq] at h
      rw [h.1.1, h.1.2, h.2]
    · cases h
  | .ptr i o l, b, h => by
    unfold eqV at h
    split at h
    · simp only [Bool.and_eq_true, Nat.beq_eq] at h
      rw [h.1.1, h.1.2, h.2]
    · cases h
  | .agg a, b, h => by
    unfold eqV at h
    split at h
    · rw [eqVs_eq a _ h]
    · cases h
  | .tup a, b, h => by
    unfold eqV at h
    split at h
    · rw [eqVs_eq a _ h]
    · cases h
  | .fn f a, b, h => by
    unfold eqV at h
    split at h
    · simp only [Bool.and_eq_true, decide_eq_true_eq] at h
      rw [h.1, eqVs_eq a _ h.2]
    · cases h
  | .hole, b, h => by
    unfold eqV at h
    split at h
    · rfl
    · cases h
  | .junk, b, h => by
    unfold eqV at h
    split at h
    · rfl
    · cases h
  | .mref i, b, h => by simp [eqV] at h
  | .dx i, b, h => by simp [eqV] at h
  | .d (.sl _), b, h => by simp [eqV] at h
  | .d (.pim _), b, h => by simp [eqV] at h
  | .d (.ifc _ _), b, h => by simp [eqV] at h
  | .d (.fn _ _), b, h => by simp [eqV] at h
  | .d (.mpi _ _ _ _), b, h => by simp [eqV] at h
theorem eqVs_eq : ∀ (a b : List V), eqVs a b = true → a = b
  | [], b, h => by
    unfold eqVs at h
    split at h
    · rfl
    · cases h
  | a :: l, b, h => by
    unfold eqVs at h
    split at h
    · rename_i b m
      rw [Bool.and_eq_true] at h
      rw [eqV_eq a b h.1, eqVs_eq l m h.2]
    · cases h
end
def eqTr {α : Type} (f : α → α → Bool) : Tr α → Tr α → Bool
  | .nil, y => match y with
    | .nil => true
    | _ => false
  | .node l v r, y => match y with
    | .node l' v' r' => (match v, v' with
      | none, none => true
      | some a, some b => f a b
      | _, _ => false) && eqTr f l l' && eqTr f r r'
    | _ => false
theorem eqTr_eq {α : Type} {f : α → α → Bool} (hf : ∀ a b, f a b = true → a = b) : ∀ (s t : Tr α), eqTr f s t = true → s = t
  | .nil, t, h => by
    unfold eqTr at h
    split at h
    · rfl
    · cases h
  | .node l v r, t, h => by
    unfold eqTr at h
    split at h
    · rename_i l' v' r'
      rw [Bool.and_eq_true, Bool.and_eq_true] at h
      obtain ⟨⟨h1, h2⟩, h3⟩ := h
      rw [eqTr_eq hf l l' h2, eqTr_eq hf r r' h3]
      congr 1
      split at h1
      · rfl
      · rw [hf _ _ h1]
      · cases h1
    · cases h
def eqXB (a b : XB) : Bool := Nat.beq a.T b.T && Nat.beq a.n b.n && eqVs a.cs b.cs
theorem eqXB_eq (a b : XB) (h : eqXB a b = true) : a = b := by
  unfold eqXB at h
  simp only [Bool.and_eq_true, Nat.beq_eq] at h
  cases a; cases b
  obtain ⟨⟨h1, h2⟩, h3⟩ := h
  have := eqVs_eq _ _ h3
  simp_all
def eqX (X Y : XS) : Bool := Nat.beq X.nx Y.nx && eqTr eqV X.sl Y.sl && eqTr eqXB X.H Y.H
theorem eqX_eq {X Y : XS} (h : eqX X Y = true) : X = Y := by
  unfold eqX at h
  simp only [Bool.and_eq_true, Nat.beq_eq] at h
  obtain ⟨⟨h1, h2⟩, h3⟩ := h
  cases X; cases Y
  have := eqTr_eq eqV_eq _ _ h2
  have := eqTr_eq eqXB_eq _ _ h3
  simp_all
mutual
def nvV (r : Nat) : V → Bool
  | .ref i _ _ => !(Nat.beq i r)
  | .ptr i _ _ => !(Nat.beq i r)
  | .mref i => !(Nat.beq i r)
  | .agg cs => nvL r cs
  | .tup cs => nvL r cs
  | .fn _ cs => nvL r cs
  | .d _ | .dx _ | .hole | .junk => true
def nvL (r : Nat) : List V → Bool
  | [] => true
  | c :: cs => nvV r c && nvL r cs
end
theorem nbeq {i r : Nat} (h : (!(Nat.beq i r)) = true) : i ≠ r := fun e => by subst e; rw [Nat.beq_refl] at h; cases h
mutual
theorem RV.agrx {r : Nat} {E E' : Env} {w : World} (ha : ∀ i, i ≠ r → E'.loc i = E.loc i) (hz' : ∀ b, E.Z b → E'.Z b) (hz : ∀ b, ¬ E.Z b) : ∀ (c : V) (x : Value), nvV r c = true → RV E w c x → RV E' w c x
  | .d x, v, _, h => Ab.RD.keep (fun b hb => absurd hb (hz b)) hz' x v h
  | .ref i off len, v, hc, h => by
    unfold RV at h ⊢
    rw [ha i (nbeq hc)]; exact h
  | .ptr i k off, v, hc, h => by
    unfold RV at h ⊢
    rw [ha i (nbeq hc)]; exact h
  | .mref i, v, hc, h => by
    unfold RV at h ⊢
    rw [ha i (nbeq hc)]; exact h
  | .agg cs, v, hc, ⟨vs, h1, h2, h3⟩ => ⟨vs, h1, h2, RVs.agrx ha hz' hz cs vs hc h3⟩
  | .tup cs, v, hc, ⟨vs, h1, h2⟩ => ⟨vs, h1, RVs.agrx ha hz' hz cs vs hc h2⟩
  | .fn f cs, v, hc, ⟨vs, h1, h2⟩ => ⟨vs, h1, RVs.agrx ha hz' hz cs vs hc h2⟩
  | .dx es, v, _, ⟨h1, h2⟩ => ⟨Ab.RD.keep (fun b hb => absurd hb (hz b)) hz' (.sl es) v h1, h2⟩
  | .hole, _, _, h => h
  | .junk, _, _, _ => trivial
theorem RVs.agrx {r : Nat} {E E' : Env} {w : World} (ha : ∀ i, i ≠ r → E'.loc i = E.loc i) (hz' : ∀ b, E.Z b → E'.Z b) (hz : ∀ b, ¬ E.Z b) : ∀ (cs : List V) (vs : List Value), nvL r cs = true → RVs E w cs vs → RVs E' w cs vs
  | [], vs, _, h => h
  | c :: cs, vs, hc, ⟨v, l, h1, h2, h3⟩ => by
    simp only [nvL, Bool.and_eq_true] at hc
    exact ⟨v, l, h1, RV.agrx ha hz' hz c v hc.1 h2, RVs.agrx ha hz' hz cs l hc.2 h3⟩
end
def Tr.all {α : Type} (f : α → Bool) : Tr α → Bool
  | .nil => true
  | .node l v r => (match v with
    | some a => f a
    | none => true) && l.all f && r.all f
theorem Tr.all_get {α : Type} {f : α → Bool} : ∀ (t : Tr α) {i : Nat} {a : α}, t.all f = true → t.get i = some a → f a = true
  | .nil, i, a, _, h => by simp [Tr.get] at h
  | .node l v r, i, a, ht, h => by
    simp only [Tr.all, Bool.and_eq_true] at ht
    unfold Tr.get at h
    cases i with
    | zero => dsimp only at h; subst h; exact ht.1.1
    | succ n =>
      dsimp only at h
      split at h
      · exact Tr.all_get l ht.1.2 h
      · exact Tr.all_get r ht.2 h
theorem XW.rename {C : Cx} {nx r : Nat} {H : XH} {E E' : Env} {w w' : World} {b : XB} (h : XW C nx H E w) (h' : XW C (nx + 1) (H.put nx b) E' w') (hr : r < nx) (_hfl : C.pr.fl ≤ r) (hg : H.get r = none) (hn : H.all (fun b => nvL r b.cs) = true) (hb : nvL r b.cs = true) (hbl : ltL nx b.cs = true) :
    XW C nx (H.put r b) (E'.at r (E'.loc nx)) w' := by
  have old : ∀ i, H.get i ≠ none → i < nx ∧ i ≠ r := fun i hi => by
    cases hq : H.get i with
    | none => exact absurd hq hi
    | some b => exact ⟨(h.lt i b hq).1, fun e => by rw [e, hg] at hq; cases hq⟩
  have hloc : (E'.at r (E'.loc nx)).loc r = E'.loc nx := by simp [Env.at]
  have ha : ∀ i, i ≠ r → (E'.at r (E'.loc nx)).loc i = E'.loc i := fun i hi => by simp [Env.at, hi]
  have hz' : ∀ b, E'.Z b → (E'.at r (E'.loc nx)).Z b := fun _ h => h
  have get : ∀ i, (H.put r b).get i ≠ none → i = r ∨ H.get i ≠ none := fun i hi => by
    rw [Tr.get_put] at hi
    split at hi
    · rename_i e; exact .inl e
    · exact .inr hi
  have up : ∀ i, H.get i ≠ none → (H.put nx b).get i = H.get i := fun i hi => by rw [Tr.get_put, if_neg (Nat.ne_of_lt (old i hi).1)]
  have top : (H.put nx b).get nx = some b := by rw [Tr.get_put, if_pos rfl]
  have keep : ∀ i d, XHold E' w' i d → nvL r d.cs = true → ∀ j, (E'.at r (E'.loc nx)).loc j = E'.loc i → XHold (E'.at r (E'.loc nx)) w' j d := by
    rintro i d ⟨g1, g2, g3, g4, g5, c, g6, g7, g8, g9⟩ hd j hj
    unfold XHold
    rw [hj]
    exact ⟨g1, g2, g3, g4, g5, c, g6, g7, g8, RVs.agrx ha hz' h'.z _ _ hd g9⟩
  refine ⟨fun i d hi => ?_, fun i d hi => ?_, fun i j hi hj hij => ?_, fun i hf hi => ?_, h'.z, fun i q hx => ?_, h'.below, fun i hi => ?_⟩
  · rw [Tr.get_put] at hi
    split at hi
    · rename_i e
      injection hi with hi; subst hi
      rw [e]
      exact keep nx b (h'.hold nx b top) hb r hloc
    · have h1 := h'.hold i d (by rw [up i (by rw [hi]; simp)]; exact hi)
      exact keep i d h1 (Tr.all_get H hn hi) i (ha i (old i (by rw [hi]; simp)).2)
  · rw [Tr.get_put] at hi
    split at hi
    · rename_i e
      injection hi with hi; subst hi
      rw [e]
      exact ⟨hr, hbl⟩
    · exact h.lt i d hi
  · rcases get i hi with e | hi'
    · rcases get j hj with e2 | hj'
      · exact absurd (e.trans e2.symm) hij
      · rw [e, hloc, ha j (old j hj').2]
        exact h'.inj nx j (by rw [top]; simp) (by rw [up j hj']; exact hj') (Ne.symm (Nat.ne_of_lt (old j hj').1))
    · rcases get j hj with e2 | hj'
      · rw [e2, hloc, ha i (old i hi').2]
        exact h'.inj i nx (by rw [up i hi']; exact hi') (by rw [top]; simp) (Nat.ne_of_lt (old i hi').1)
      · rw [ha i (old i hi').2, ha j (old j hj').2]
        exact h'.inj i j (by rw [up i hi']; exact hi') (by rw [up j hj']; exact hj') hij
  · rcases get i hi with e | hi'
    · rw [e, hloc]; exact h'.mine nx (by omega) (by rw [top]; simp)
    · rw [ha i (old i hi').2]; exact h'.mine i hf (by rw [up i hi']; exact hi')
  · by_cases e : i = r
    · rw [e, hloc] at hx; exact h'.xs _ _ hx
    · rw [ha i e] at hx; exact h'.xs _ _ hx
  · have h1 := (h.kp i hi).1
    obtain ⟨k1, k2, k3⟩ := h'.kp i hi
    exact ⟨by rw [Tr.get_put, if_neg (old i h1).2]; exact h1, by rw [ha i (old i h1).2]; exact k2, k3⟩
end Go.Xm
end
section
namespace Go.Xm
open Go.Ab Go.RowKit
def scanX (G : Pg) (nt : Nat) (ops : Array Oper) : List Oper → XS → List Nat → List Nat
  | [], _, acc => acc
  | o :: l, X, acc => match wantedV ops (stX nt X) o with
    | some true => match pG G (stX nt X) X.H o.op with
      | some v => match putX nt X o.dst v with
        | some X' => scanX G nt ops l X' (match o.op with
          | .load _ a => match (stX nt X).ev a with
            | .ptr id _ _ => match notIn id acc with
              | true => id :: acc
              | false => acc
            | _ => acc
          | _ => acc)
        | none => acc
      | none => scanX G nt ops l (match o.dst with
        | some d => ⟨X.sl.del d, X.H, X.nx⟩
        | none => X) acc
    | _ => scanX G nt ops l (match o.dst with
        | some d => ⟨X.sl.del d, X.H, X.nx⟩
        | none => X) acc
def headN (ops : Array Oper) : Nat → Nat
  | 0 => 0
  | n + 1 => match headB ops (n + 1) with
    | true => n + 1
    | false => headN ops n
def storeN : List Oper → Nat → Nat
  | [], i => i
  | o :: l, i => match o.op with
    | .store .. => i
    | _ => storeN l (i + 1)
structure Rg where
  call : CallF
  G : Pg
  pr : Pr
  pr1 : Pr
  nt : Nat
  ops : Array Oper
  n : Nat
  ids : List Nat
  nx0 : Nat
def heldB (R : Rg) (X : XS) (i : Nat) : Op → Bool
  | .load _ a => Nat.blt i R.n && (match (stX R.nt X).ev a with
    | .ptr id _ _ => !(notIn id R.ids)
    | _ => false)
  | _ => true
def tryX (R : Rg) (listed : Array Bool) (X : XS) (i : Nat) : Option XS :=
  match R.ops[i]? with
  | none => none
  | some o => match wantedV R.ops (stX R.nt X) o with
    | some false => match Region.free .any R.ops listed i with
      | true => putX R.nt X o.dst (.tup [])
      | false => none
    | some true => match pG R.G (stX R.nt X) X.H o.op with
      | some v => match heldB R X i o.op && Region.free .any R.ops listed i with
        | true => putX R.nt X o.dst v
        | false => none
      | none => none
    | none => none
def firstX (R : Rg) (listed : Array Bool) (X : XS) : List Nat → Option (Nat × XS)
  | [] => none
  | i :: l => match tryX R listed X i with
    | some X1 => some (i, X1)
    | none => firstX R listed X l
def prI (R : Rg) (i : Nat) : Pr := match Nat.blt i R.n with
  | true => R.pr1
  | false => R.pr
def subV (r : Nat) : V → V
  | .ptr _ i o => .ptr r i o
  | .ref _ o l => .ref r o l
  | v => v
def isNew : Op → Bool
  | .alloc _ => true
  | .buildSlice .. => true
  | _ => false
def newI (R : Rg) (X : XS) (i : Nat) (o : Oper) : Option XS :=
  match isNew o.op with
  | true => match eX R.G.ty (stX R.nt X) X.H (prI R i) X.nx o.op with
    | some (v, H, _) => match H.get X.nx, X.H.get (R.nx0 + i) with
      | some b, none => match Nat.blt (R.nx0 + i) X.nx && Nat.ble (prI R i).fl (R.nx0 + i) && X.H.all (fun b => nvL (R.nx0 + i) b.cs) && X.sl.all (nvV (R.nx0 + i)) && nvL (R.nx0 + i) b.cs && ltL X.nx b.cs with
        | true => putX R.nt ⟨X.sl, X.H.put (R.nx0 + i) b, X.nx⟩ o.dst (subV (R.nx0 + i) v)
        | false => none
      | _, _ => none
    | none => none
  | false => none
def stepI (R : Rg) (X : XS) (i : Nat) : Option XS :=
  match R.ops[i]? with
  | none => none
  | some o => match wantedV R.ops (stX R.nt X) o with
    | some true => match newI R X i o with
      | some X1 => some X1
      | none => stepX R.call R.G (prI R i) R.nt X o
    | some false => putX R.nt X o.dst (.tup [])
    | none => none
def foldX (f : Nat → Option XS) : List Nat → Option XS
  | [] => none
  | i :: l => match f i with
    | some x => match l with
      | [] => some x
      | _ :: _ => match foldX f l with
        | some y => match eqX x y with
          | true => some x
          | false => none
        | none => none
    | none => none
theorem foldX_all {f : Nat → Option XS} : ∀ {l : List Nat} {x : XS}, foldX f l = some x → ∀ i ∈ l, f i = some x
  | [], _, h, _, _ => by cases h
  | i :: l, x, h, j, hj => by
    unfold foldX at h
    split at h
    · rename_i x1 h1
      split at h
      · injection h with h; subst h
        rw [List.mem_singleton] at hj
        rw [hj]; exact h1
      · split at h
        · rename_i y hy
          split at h
          · rename_i he
            injection h with h; subst h
            rcases List.mem_cons.1 hj with rfl | hj
            · exact h1
            · rw [eqX_eq he]; exact foldX_all hy j hj
          · cases h
        · cases h
    · cases h
def anyX (R : Rg) : Nat → Array Bool → XS → Option XS
  | 0, listed, X => match Region.ready .any R.ops listed with
    | [] => some X
    | _ :: _ => none
  | k + 1, listed, X => match Region.ready .any R.ops listed with
    | [] => some X
    | i :: l => match firstX R listed X (i :: l) with
      | some (j, X1) => anyX R k (listed.setIfInBounds j true) X1
      | none => foldX (fun j => match stepI R X j with
        | some X1 => anyX R k (listed.setIfInBounds j true) X1
        | none => none) (i :: l)
def regX (call : CallF) (G : Pg) (pr : Pr) (nt : Nat) (ops : Array Oper) (X : XS) : Option XS :=
  let ids := scanX G nt ops ops.toList X []
  let n := headN ops (storeN ops.toList 0)
  match headB ops n && Region.noSelect ops && ids.all (fun i => (X.H.get i).isSome) with
  | true => anyX ⟨call, G, pr, ⟨pr.fl, ids ++ pr.ids⟩, nt, ops, n, ids, X.nx⟩ ops.size (Array.replicate ops.size false) ⟨X.sl, X.H, X.nx + ops.size⟩
  | false => none
theorem eX_new {ty : TypeId → Option TI} {S : St} {H : XH} {fl : Pr} {nx : Nat} {o : Op} (ho : isNew o = true) {v : V} {H' : XH} {nx' : Nat} (h : eX ty S H fl nx o = some (v, H', nx')) :
    ∃ b, H' = H.put nx b ∧ nx' = nx + 1 ∧ (v = .ptr nx 0 0 ∨ ∃ l, v = .ref nx 0 l) := by
  unfold eX at h
  split at h <;> first | (simp [isNew] at ho; done) | skip
  · rename_i T
    cases hT : ty T with
    | none => simp [hT] at h
    | some ti =>
      simp only [hT, Option.bind_some] at h
      split at h
      · cases hn : newX nx H T ti.zero.cells.size (litL ti.zero) with
        | none => rw [hn, Option.map_none] at h; cases h
        | some p =>
          rw [hn, Option.map_some, Option.some.injEq, Prod.mk.injEq] at h
          obtain ⟨rfl, rfl⟩ := h
          obtain ⟨_, _, _, h4⟩ := newX_some hn
          injection h4 with h4 h5
          exact ⟨_, h4, h5, .inl rfl⟩
      · cases h
  · rename_i T len parts
    cases hT : ty T with
    | none => simp [hT] at h
    | some ti =>
      simp only [hT, Option.bind_some] at h
      split at h
      · rename_i e hd
        cases hE : ty e with
        | none => simp [hE] at h
        | some te =>
          simp only [hE, Option.bind_some] at h
          split at h
          · split at h
            · rename_i r hr
              split at h
              · cases hn : newX nx H e te.size r with
                | none => rw [hn, Option.map_none] at h; cases h
                | some p =>
                  rw [hn, Option.map_some, Option.some.injEq, Prod.mk.injEq] at h
                  obtain ⟨rfl, rfl⟩ := h
                  obtain ⟨_, _, _, h4⟩ := newX_some hn
                  injection h4 with h4 h5
                  exact ⟨_, h4, h5, .inr ⟨_, rfl⟩⟩
              · cases h
            · cases h
          · cases h
      · cases h
section
variable {P : Program} {sq : List TypeId} (hsq : SqOK P sq) {call : CallF} (hcall : CallOK P call)
theorem newI_sound {R : Rg} {C : Cx} {X X' : XS} {E : Env} {a : Act} {w : World} {i : Nat} (hG : R.G = ⟨tyOf P, sq⟩) (hpr : prI R i = C.pr) (_hnx : R.nx0 ≤ X.nx) (m : XA C R.nt X E a w) {o : Oper} (h : newI R X i o = some X') {K : Act → World → Prop} {Q : Exit → Act → World → Prop}
    (hK : ∀ E' a' w', XA C R.nt X' E' a' w' → Agr R.nx0 E E' → X.nx ≤ X'.nx → K a' w') : o.wp P a w K Q := by
  unfold newI at h
  split at h
  · rename_i hnew
    split at h
    · rename_i v H nx hv
      rw [hG, hpr] at hv
      obtain ⟨b, rfl, rfl, hvv⟩ := eX_new hnew hv
      split at h
      · rename_i b' hb hr0
        rw [Tr.get_put, if_pos rfl, Option.some.injEq] at hb
        subst hb
        split at h
        · rename_i hc
          simp only [Bool.and_eq_true] at hc
          obtain ⟨⟨⟨⟨⟨c1, c2⟩, c3⟩, c4⟩, c5⟩, c6⟩ := hc
          have c1 := blt_iff.1 c1
          have c2 := Nat.le_of_ble_eq_true c2
          obtain ⟨N, u, w', E', hrun, hy, hu, hw, ha, hle⟩ := eX_sound m.w m.ev rfl hv
          have hw2 := XW.rename m.w hw c1 (hpr ▸ c2) hr0 c3 c5 c6
          have hag : Agr R.nx0 E (E'.at (R.nx0 + i) (E'.loc X.nx)) := fun j hj => by
            have h1 : j ≠ R.nx0 + i := by omega
            simp [Env.at, h1, ha j (by omega)]
          have m' : XA C R.nt ⟨X.sl, X.H.put (R.nx0 + i) b, X.nx⟩ (E'.at (R.nx0 + i) (E'.loc X.nx)) a w' := by
            refine ⟨m.nt, fun t => ?_, m.lt, m.dfr, hw2⟩
            show RV _ w' ((X.sl.get t).getD .junk) _
            cases hq : X.sl.get t with
            | none => trivial
            | some x =>
              have h1 := m.slots t
              rw [hq] at h1
              have h2 : RV E' w' x (a.tmps.getD t undef) := RV.agr ha m.w.z (fun b hb => absurd hb (m.w.z b)) _ _ (m.lt t x hq) h1
              exact RV.agrx (E := E') (E' := E'.at (R.nx0 + i) (E'.loc X.nx)) (r := R.nx0 + i) (w := w') (fun j hj => by simp [Env.at, hj]) (fun _ h => h) hw.z x (a.tmps.getD t undef) (Tr.all_get X.sl c4 hq) h2
          have hu2 : RV (E'.at (R.nx0 + i) (E'.loc X.nx)) w' (subV (R.nx0 + i) v) u := by
            have e : (E'.at (R.nx0 + i) (E'.loc X.nx)).loc (R.nx0 + i) = E'.loc X.nx := by simp [Env.at]
            rcases hvv with rfl | ⟨l, rfl⟩
            · unfold RV at hu
              unfold subV RV
              rw [e]; exact hu
            · unfold RV at hu
              unfold subV RV
              rw [e]; exact hu
          obtain ⟨m2, hn2⟩ := m'.put h hu2
          have hn2 : X'.nx = X.nx := hn2
          have hK' := hK _ _ _ m2 hag (by omega)
          unfold Oper.wp
          rw [hrun]
          rcases hy with rfl | ⟨rfl, rfl⟩
          · exact hK'
          · exact hK'
        · cases h
      · cases h
    · cases h
  · cases h
def S0of (ids : List Nat) (C1 : Cx) (w : World) : Prop := ∀ i ∈ ids, w.heap[C1.rb i]? = C1.ob i
include hsq in
theorem tryX_sound {R : Rg} {C C1 : Cx} {X X1 : XS} {E : Env} {a : Act} {w : World} {listed : Array Bool} {j : Nat} (hG : R.G = ⟨tyOf P, sq⟩) (hh : headB R.ops R.n = true) (hw : Wtd R.ops listed) (hj : j ∈ Region.ready .any R.ops listed)
    (hids : ∀ i ∈ R.ids, i ∈ C1.pr.ids) (m : XA C R.nt X E a w) (m1 : NoTail R.n listed → XA C1 R.nt X E a w) (h : tryX R listed X j = some X1) :
    ∃ o u, R.ops[j]? = some o ∧ Region.free .any R.ops listed j = true ∧ (∀ {C}, XA C R.nt X E a w → XA C R.nt X1 E (a.put o.dst u) w) ∧ X1.nx = X.nx ∧
      ((j < R.n ∧ YieldsIf P R.ops (Held R.n (S0of R.ids C1) listed) o u a) ∨ YieldsIf P R.ops (fun _ => True) o u a) := by
  unfold tryX at h
  split at h
  · cases h
  · rename_i o ho
    split at h
    · rename_i hwn
      split at h
      · rename_i hf
        have hp : ∀ {C}, XA C R.nt X E a w → XA C R.nt X1 E (a.put o.dst undef) w ∧ X1.nx = X.nx := fun m => m.put h ⟨[], rfl, rfl⟩
        exact ⟨o, undef, ho, hf, fun m => (hp m).1, (hp m).2, .inr (.inr ⟨m.wanted hwn, rfl⟩)⟩
      · cases h
    · rename_i hwn
      split at h
      · rename_i v hv
        rw [hG] at hv
        split at h
        · rename_i hc
          rw [Bool.and_eq_true] at hc
          obtain ⟨hc, hf⟩ := hc
          by_cases hl : isLoad o.op = true
          · cases hop : o.op with
            | load T x =>
              rw [hop] at hc hv
              unfold heldB at hc
              rw [Bool.and_eq_true] at hc
              obtain ⟨hjn, hc⟩ := hc
              have hjn := blt_iff.1 hjn
              split at hc
              · rename_i id k off hid
                have hin : id ∈ R.ids := by
                  by_cases hq : id ∈ R.ids
                  · exact hq
                  · exfalso
                    have : notIn id R.ids = true := by
                      have gen : ∀ l : List Nat, id ∉ l → notIn id l = true := by
                        intro l
                        induction l with
                        | nil => intro _; rfl
                        | cons x l ih =>
                          intro hx
                          unfold notIn
                          split
                          · rename_i hb
                            exact absurd (List.mem_cons.2 (.inl (Nat.eq_of_beq_eq_true hb))) hx
                          · exact ih (fun h => hx (List.mem_cons.2 (.inr h)))
                      exact gen _ hq
                    rw [this] at hc; cases hc
                have hnt : NoTail R.n listed := NoTail.head hh hw hj hjn
                have m1' := m1 hnt
                have hv' : pX (tyOf P) (stX R.nt X) X.H (.load T x) = some v := by
                  unfold pG at hv
                  split at hv
                  · rename_i v0 h0
                    rw [← hv]; exact h0
                  · cases hv
                obtain ⟨u, hu, hrun⟩ := load_held m1'.w m1'.ev hop hv' hid
                obtain ⟨k1, k2, k3⟩ := m1'.w.kp id (hids id hin)
                have hp : ∀ {C}, XA C R.nt X E a w → XA C R.nt X1 E (a.put o.dst u) w ∧ X1.nx = X.nx := fun m => m.put h hu
                refine ⟨o, u, ho, hf, fun m => (hp m).1, (hp m).2, .inl ⟨hjn, .inl ⟨m.wanted hwn, fun w' hs => hrun w' ?_⟩⟩⟩
                have := hs hnt id hin
                rw [k2, this, k3]
              · cases hc
            | _ => rw [hop] at hl; simp [isLoad] at hl
          · obtain ⟨u, hu, hrun⟩ := pG_any hsq m.w m.ev rfl hv
            have hp : ∀ {C}, XA C R.nt X E a w → XA C R.nt X1 E (a.put o.dst u) w ∧ X1.nx = X.nx := fun m => m.put h hu
            exact ⟨o, u, ho, hf, fun m => (hp m).1, (hp m).2, .inr (.inl ⟨m.wanted hwn, fun w' _ => hrun w' (fun e => absurd e hl)⟩)⟩
        · cases h
      · cases h
    · cases h
theorem firstX_mem {R : Rg} {listed : Array Bool} {X X1 : XS} {j : Nat} : ∀ {l : List Nat}, firstX R listed X l = some (j, X1) → j ∈ l ∧ tryX R listed X j = some X1
  | [], h => by cases h
  | i :: l, h => by
    unfold firstX at h
    split at h
    · rename_i X2 h2
      simp only [Option.some.injEq, Prod.mk.injEq] at h
      obtain ⟨rfl, rfl⟩ := h
      exact ⟨List.mem_cons.2 (.inl rfl), h2⟩
    · obtain ⟨h1, h2⟩ := firstX_mem h
      exact ⟨List.mem_cons.2 (.inr h1), h2⟩
include hsq hcall in
theorem stepI_sound {R : Rg} {C : Cx} {X X' : XS} {E : Env} {a : Act} {w : World} {i : Nat} (hG : R.G = ⟨tyOf P, sq⟩) (hc : R.call = call) (hpr : prI R i = C.pr) (hnx : R.nx0 ≤ X.nx) (m : XA C R.nt X E a w) (h : stepI R X i = some X') {K : Act → World → Prop} {Q : Exit → Act → World → Prop}
    (hK : ∀ E' a' w', XA C R.nt X' E' a' w' → Agr R.nx0 E E' → X.nx ≤ X'.nx → K a' w') : wpOp P R.ops Q i K a w := by
  unfold stepI at h
  unfold wpOp
  split at h
  · cases h
  · rename_i o ho
    simp only [ho]
    split at h
    · rename_i hw
      rw [if_pos (m.wanted hw)]
      refine .inl ?_
      split at h
      · rename_i X1 h1
        injection h with h; subst h
        exact newI_sound hG hpr hnx m h1 hK
      · rw [hG, hc, hpr] at h
        exact stepX_sound hsq hcall m h fun E' a' w' m' ha hle => hK E' a' w' m' (fun j hj => ha j (by omega)) hle
    · rename_i hw
      rw [if_neg (by rw [m.wanted hw]; decide)]
      obtain ⟨m', hn⟩ := m.put (u := undef) h ⟨[], rfl, rfl⟩
      exact hK E _ w m' (Agr.refl _ _) (by omega)
    · cases h
include hsq hcall in
theorem anyX_sound {R : Rg} {C C1 : Cx} {E0 : Env} {Q : Exit → Act → World → Prop} (hG : R.G = ⟨tyOf P, sq⟩) (hc : R.call = call) (hpr : R.pr = C.pr) (hpr1 : R.pr1 = C1.pr) (hh : headB R.ops R.n = true) (hsel : Region.noSelect R.ops = true) (hids : ∀ i ∈ R.ids, i ∈ C1.pr.ids)
    (down : ∀ X E a w, XA C1 R.nt X E a w → XA C R.nt X E a w) (hQp : ∀ c a w, ¬ Q (.panic c) a w) {X' : XS}
    (hQ : ∀ E' a' w', XA C R.nt X' E' a' w' → Agr R.nx0 E0 E' → R.nx0 ≤ X'.nx → Q .normal a' w') :
    ∀ (k : Nat) (listed : Array Bool) (X : XS) (E : Env) (a : Act) (w : World), Wtd R.ops listed → XA C R.nt X E a w → (NoTail R.n listed → XA C1 R.nt X E a w) → Agr R.nx0 E0 E → R.nx0 ≤ X.nx → anyX R k listed X = some X' → wpAnyS P .any R.ops Q (Held R.n (S0of R.ids C1)) k listed a w
  | 0, listed, X, E, a, w, hw, m, m1, ha, hle, h => by
    unfold anyX at h
    split at h
    · rename_i hr
      injection h with h; subst h
      exact ⟨hr, hQ E a w m ha hle⟩
    · cases h
  | k + 1, listed, X, E, a, w, hw, m, m1, ha, hle, h => by
    unfold anyX at h
    have held : ∀ {listed X E a w}, (NoTail R.n listed → XA C1 R.nt X E a w) → Held R.n (S0of R.ids C1) listed w := fun m1 hn i hi => by
      obtain ⟨_, _, k3⟩ := (m1 hn).w.kp i (hids i hi)
      exact k3
    split at h
    · rename_i hr
      injection h with h; subst h
      exact wpAnyS_done hr (hQ E a w m ha hle) _
    · rename_i i l hr
      split at h
      · rename_i j X1 hfst
        obtain ⟨hjl, htry⟩ := firstX_mem hfst
        have hj : j ∈ Region.ready .any R.ops listed := by rw [hr]; exact hjl
        obtain ⟨o, u, ho, hf, hmv, hn, hy⟩ := tryX_sound hsq hG hh hw hj hids m m1 htry
        have rest := anyX_sound hG hc hpr hpr1 hh hsel hids down hQp hQ k (listed.setIfInBounds j true) X1 E (a.put o.dst u) w (hw.set hj) (hmv m) (fun hn => hmv (m1 hn.of_set)) ha (by omega) h
        have hQ2 : ∀ c a' w, Q (.panic c) (a'.put o.dst u) w → Q (.panic c) a' w := fun c a' w hq => absurd hq (hQp _ _ _)
        rcases hy with ⟨hjn, hy⟩ | hy
        · exact held_load hh ho hjn hsel hw hf hj (fun c _ w hq => absurd hq (hQp _ _ _)) hy (held m1) rest
        · exact held_pure hh ho hsel hw hf hj (fun c _ w hq => absurd hq (hQp _ _ _)) hy (held m1) rest
      · have hall := foldX_all h
        refine ⟨fun h0 => absurd (hr ▸ h0) (by simp), fun j hj => ?_⟩
        have hjm := hall j (by rw [← hr]; exact hj)
        split at hjm
        · rename_i X1 h1
          rcases Nat.lt_or_ge j R.n with hjn | hjn
          · have hnt : NoTail R.n listed := NoTail.head hh hw hj hjn
            have hp : prI R j = C1.pr := by unfold prI; rw [blt_iff.2 hjn]; exact hpr1
            refine stepI_sound hsq hcall hG hc hp hle (m1 hnt) h1 fun E' a' w' m' ha' hle' => ?_
            refine ⟨held (fun _ => m'), anyX_sound hG hc hpr hpr1 hh hsel hids down hQp hQ k (listed.setIfInBounds j true) X1 E' a' w' (hw.set hj) (down _ _ _ _ m') (fun _ => m') (fun i hi => (ha' i hi).trans (ha i hi)) (by omega) hjm⟩
          · have hp : prI R j = C.pr := by
              unfold prI
              have : Nat.blt j R.n = false := by
                cases hq : Nat.blt j R.n with
                | false => rfl
                | true => exact absurd (blt_iff.1 hq) (by omega)
              rw [this]; exact hpr
            refine stepI_sound hsq hcall hG hc hp hle m h1 fun E' a' w' m' ha' hle' => ?_
            have hno : ¬ NoTail R.n (listed.setIfInBounds j true) := NoTail.not_set (getD_ft (mem_ready.1 hj).1).1 hjn
            exact ⟨fun hn => absurd hn hno, anyX_sound hG hc hpr hpr1 hh hsel hids down hQp hQ k (listed.setIfInBounds j true) X1 E' a' w' (hw.set hj) m' (fun hn => absurd hn hno) (fun i hi => (ha' i hi).trans (ha i hi)) (by omega) hjm⟩
        · cases hjm
include hsq hcall in
theorem regX_sound (hm : P.follows .mixedOrders = true) {C : Cx} {nt : Nat} {ops : Array Oper} {X X' : XS} {E : Env} {a : Act} {w : World} {id : Nat} {Q : Exit → Act → World → Prop} (h : regX call ⟨tyOf P, sq⟩ C.pr nt ops X = some X') (m : XA C nt X E a w)
    (hQ : ∀ E' a' w', XA C nt X' E' a' w' → Agr X.nx E E' → X.nx ≤ X'.nx → Q .normal a' w') : (Code.region id ops true).wp P Q a w := by
  unfold regX at h
  dsimp only at h
  generalize scanX ⟨tyOf P, sq⟩ nt ops ops.toList X [] = ids at h
  generalize headN ops (storeN ops.toList 0) = n at h
  split at h
  · rename_i hcnd
    simp only [Bool.and_eq_true] at hcnd
    obtain ⟨⟨hh, hsel⟩, hex⟩ := hcnd
    have hex : ∀ i ∈ ids, X.H.get i ≠ none := fun i hi e => by
      have := List.all_eq_true.1 hex i hi
      rw [e] at this; cases this
    let w1 : World := { w with drawn := w.drawn + 1 }
    have hb1 : Below w.heap.size w w1 := ⟨rfl, rfl, rfl, Nat.le_refl _, fun _ _ => rfl⟩
    have mw : XA C nt ⟨X.sl, X.H, X.nx + ops.size⟩ E a w1 := by
      have := m.later hb1
      refine ⟨this.nt, this.slots, fun t v hg => ltV_mono (Nat.le_add_right _ _) v (this.lt t v hg), this.dfr, ?_⟩
      have q := this.w
      exact ⟨q.hold, fun i b hg => ⟨Nat.lt_of_lt_of_le (q.lt i b hg).1 (Nat.le_add_right _ _), ltL_mono (Nat.le_add_right _ _) _ (q.lt i b hg).2⟩, q.inj, q.mine, q.z, q.xs, q.below, q.kp⟩
    let C1 : Cx := ⟨C.w0, ⟨C.pr.fl, ids ++ C.pr.ids⟩, fun i => if i ∈ ids then (E.loc i).b else C.rb i, fun i => if i ∈ ids then w1.heap[(E.loc i).b]? else C.ob i, C.df⟩
    have m1 : XA C1 nt ⟨X.sl, X.H, X.nx + ops.size⟩ E a w1 := by
      refine ⟨mw.nt, mw.slots, mw.lt, mw.dfr, ?_⟩
      have q := mw.w
      refine ⟨q.hold, q.lt, q.inj, q.mine, q.z, q.xs, q.below, fun i hi => ?_⟩
      by_cases hin : i ∈ ids
      · exact ⟨hex i hin, by simp [C1, hin], by simp [C1, hin]⟩
      · have hi' : i ∈ C.pr.ids := by
          rcases List.mem_append.1 hi with h | h
          · exact absurd h hin
          · exact h
        obtain ⟨k1, k2, k3⟩ := q.kp i hi'
        exact ⟨k1, by simp only [C1, hin, if_false]; exact k2, by simp only [C1, hin, if_false]; exact k3⟩
    have down : ∀ X E a w, XA C1 nt X E a w → XA C nt X E a w := fun X' E' a' w' m' => by
      refine ⟨m'.nt, m'.slots, m'.lt, m'.dfr, ?_⟩
      have q := m'.w
      refine ⟨q.hold, q.lt, q.inj, q.mine, q.z, q.xs, q.below, fun i hi => ?_⟩
      obtain ⟨k1, k2, k3⟩ := q.kp i (List.mem_append.2 (.inr hi))
      by_cases hin : i ∈ ids
      · obtain ⟨j1, j2, j3⟩ := mw.w.kp i hi
        simp only [C1, hin, if_true] at k2 k3
        exact ⟨k1, k2.trans j2, by rw [← j2, k3, j2, j3]⟩
      · simp only [C1, hin, if_false] at k2 k3
        exact ⟨k1, k2, k3⟩
    refine Go.wp_mono (Q := fun e a' w' => e = .normal ∧ Q .normal a' w') (wp_region_any hm (wpAny_of_S (S := Held n (S0of ids C1)) ops.size _ a w1 ?_)) (fun e a' w' hq => by rw [hq.1]; exact hq.2)
    exact anyX_sound hsq hcall (R := ⟨call, ⟨tyOf P, sq⟩, C.pr, C1.pr, nt, ops, n, ids, X.nx⟩) (C := C) (C1 := C1) (E0 := E) rfl rfl rfl rfl hh hsel (fun i hi => List.mem_append.2 (.inl hi)) down (fun c a w hq => by cases hq.1) (fun E' a' w' m' ha hle => ⟨rfl, hQ E' a' w' m' ha hle⟩) ops.size _ _ E a w1 (Wtd.init ops) mw (fun _ => m1) (Agr.refl _ _) (Nat.le_add_right _ _) h
  · cases h
end
end Go.Xm
end
section
namespace Go.Xm
open Go.Ab Go.RowKit
inductive XE where
  | normal
  | exit (id : Nat)
  | ret
def XE.to : XE → Exit
  | .normal => .normal
  | .exit id => .exit id
  | .ret => .ret
def quB (call : CallF) (G : Pg) (nt : Nat) (ops : Array Oper) (X : XS) : Option XS :=
  match Region.lexB .any ops with
  | true => quX call G nt ops ops.toList X
  | false => none
def codeX (call : CallF) (G : Pg) (fl : Pr) (nt : Nat) : Nat → Code → XS → Option (XE × XS)
  | 0, _, _ => none
  | k + 1, c, X => match c with
    | .skip => some (.normal, X)
    | .ret => some (.ret, X)
    | .exit id => some (.exit id, X)
    | .region _ ops draw => match draw with
      | false => match opsX call G fl nt ops ops.toList X with
        | some X' => some (.normal, X')
        | none => none
      | true => match quB call G nt ops X with
        | some X' => some (.normal, X')
        | none => match regX call G fl nt ops X with
          | some X' => some (.normal, X')
          | none => none
    | .seq a b => match codeX call G fl nt k a X with
      | some (.normal, X') => codeX call G fl nt k b X'
      | r => r
    | .cond c x y => match (stX nt X).ev c with
      | .d (.lit (.bool true)) => codeX call G fl nt k x X
      | .d (.lit (.bool false)) => codeX call G fl nt k y X
      | _ => none
    | .block id b => match codeX call G fl nt k b X with
      | some (.exit id', X') => match Nat.beq id' id with
        | true => some (.normal, X')
        | false => some (.exit id', X')
      | r => r
    | .loop b => match codeX call G fl nt k b X with
      | some (.normal, X') => codeX call G fl nt k (.loop b) X'
      | r => r
    | .scope b => codeX call G fl nt k b X
    | _ => none
def tabX : List V → Nat → Tr V → Tr V
  | [], _, t => t
  | v :: l, i, t => tabX l (i + 1) (t.put i v)
abbrev HookF := CallF → FuncId → Option (Pr → List V → XH → Nat → Option (V × XH × Nat))
def fnX (hk : HookF) (ft : FuncId → Option Func) (G : Pg) (F : Nat) : Nat → CallF
  | 0, _, _, _, _, _ => none
  | d + 1, fl, f, args, H, nx => match hk (fnX hk ft G F d) f with
    | some g => g fl args H nx
    | none => match ft f with
    | some fn => match fn.body with
      | some c => match Nat.ble args.length fn.ntmps with
        | true => match codeX (fnX hk ft G F d) G fl fn.ntmps F c ⟨tabX args 0 .nil, H, nx⟩ with
          | some (.exit _, _) => none
          | some (_, X') => match outV G.ty fn.results.toList (stX fn.ntmps X') with
            | some v => match ltV X'.nx v with
              | true => some (v, X'.H, X'.nx)
              | false => none
            | none => none
          | none => none
        | false => none
      | none => none
    | none => none
section
variable {P : Program} {sq : List TypeId} (hsq : SqOK P sq) {call : CallF} (hcall : CallOK P call) {C : Cx} {nt : Nat}
include hsq hcall
theorem codeX_sound (hm : P.follows .mixedOrders = true) : ∀ (k : Nat),
    (∀ (c : Code) {X X' : XS} {e : XE} {E : Env} {a : Act} {w : World} {Q : Exit → Act → World → Prop}, codeX call ⟨tyOf P, sq⟩ C.pr nt k c X = some (e, X') → XA C nt X E a w → (∀ E' a' w', XA C nt X' E' a' w' → Agr X.nx E E' → X.nx ≤ X'.nx → Q e.to a' w') → c.wp P Q a w) ∧
    (∀ (c : Code) {X X' : XS} {e : XE} {E : Env} {a : Act} {w : World} {Q : Exit → Act → World → Prop}, codeX call ⟨tyOf P, sq⟩ C.pr nt k (.loop c) X = some (e, X') → XA C nt X E a w → (∀ E' a' w', XA C nt X' E' a' w' → Agr X.nx E E' → X.nx ≤ X'.nx → Q e.to a' w') → Code.rounds P c Q k a w)
  | 0 => ⟨by intro c X X' e E a w Q h; simp [codeX] at h, by intro c X X' e E a w Q h; simp [codeX] at h⟩
  | k + 1 => by
    obtain ⟨ih, ihl⟩ := codeX_sound hm k
    have loop : ∀ (c : Code) {X X' : XS} {e : XE} {E : Env} {a : Act} {w : World} {Q : Exit → Act → World → Prop}, codeX call ⟨tyOf P, sq⟩ C.pr nt (k + 1) (.loop c) X = some (e, X') → XA C nt X E a w → (∀ E' a' w', XA C nt X' E' a' w' → Agr X.nx E E' → X.nx ≤ X'.nx → Q e.to a' w') → Code.rounds P c Q (k + 1) a w := by
      intro c X X' e E a w Q h m hQ
      simp only [codeX] at h
      rw [rounds_succ]
      split at h
      · rename_i X1 h1
        exact ih c h1 m fun E1 a1 w1 m1 g1 g2 => ihl c h m1 fun E' a' w' m' k1 k2 => hQ E' a' w' m' (g1.trans g2 k1) (Nat.le_trans g2 k2)
      · rename_i hne
        refine ih c h m fun E1 a1 w1 m1 g1 g2 => ?_
        have := hQ E1 a1 w1 m1 g1 g2
        cases e with
        | normal => exact absurd h (hne X')
        | exit id => exact this
        | ret => exact this
    refine ⟨?_, loop⟩
    intro c X X' e E a w Q h m hQ
    cases c with
    | skip =>
      simp only [codeX, Option.some.injEq, Prod.mk.injEq] at h
      obtain ⟨rfl, rfl⟩ := h
      exact wp_skip (hQ E a w m (Agr.refl _ _) (Nat.le_refl _))
    | ret =>
      simp only [codeX, Option.some.injEq, Prod.mk.injEq] at h
      obtain ⟨rfl, rfl⟩ := h
      exact wp_ret (hQ E a w m (Agr.refl _ _) (Nat.le_refl _))
    | exit id =>
      simp only [codeX, Option.some.injEq, Prod.mk.injEq] at h
      obtain ⟨rfl, rfl⟩ := h
      exact wp_exit (hQ E a w m (Agr.refl _ _) (Nat.le_refl _))
    | region id ops draw =>
      simp only [codeX] at h
      split at h
      · split at h
        · rename_i X1 h1
          simp only [Option.some.injEq, Prod.mk.injEq] at h
          obtain ⟨rfl, rfl⟩ := h
          exact wp_region_list (opsX_sound hsq hcall _ m h1 hQ)
        · cases h
      · cases hq : quB call ⟨tyOf P, sq⟩ nt ops X with
        | some X1 =>
          simp only [hq, Option.some.injEq, Prod.mk.injEq] at h
          obtain ⟨rfl, rfl⟩ := h
          unfold quB at hq
          split at hq
          · rename_i hB
            refine wp_region_quiet (C := Below w.heap.size w) hm hB ⟨rfl, rfl, rfl, Nat.le_refl _, fun _ _ => rfl⟩ (quX_sound hsq hcall _ m hq fun a' m' hn w' hb => ?_)
            exact hQ E a' w' (XA.later m' hb) (Agr.refl _ _) (by omega)
          · cases hq
        | none =>
          simp only [hq] at h
          split at h
          · rename_i X1 h1
            simp only [Option.some.injEq, Prod.mk.injEq] at h
            obtain ⟨rfl, rfl⟩ := h
            exact regX_sound hsq hcall hm h1 m hQ
          · cases h
    | seq x y =>
      simp only [codeX] at h
      refine wp_seq ?_
      split at h
      · rename_i X1 h1
        exact ih x h1 m fun E1 a1 w1 m1 g1 g2 => ih y h m1 fun E' a' w' m' k1 k2 => hQ E' a' w' m' (g1.trans g2 k1) (Nat.le_trans g2 k2)
      · rename_i hne
        refine ih x h m fun E1 a1 w1 m1 g1 g2 => ?_
        have := hQ E1 a1 w1 m1 g1 g2
        cases e with
        | normal => exact absurd h (hne X')
        | exit id => exact this
        | ret => exact this
    | cond c x y =>
      simp only [codeX] at h
      have hc := m.ev c
      split at h
      · rename_i hv
        rw [hv] at hc
        exact wp_cond_true (RD_lit hc) (ih x h m hQ)
      · rename_i hv
        rw [hv] at hc
        exact wp_cond_false (RD_lit hc) (ih y h m hQ)
      · cases h
    | block id b =>
      simp only [codeX] at h
      refine wp_block ?_
      split at h
      · rename_i id' X1 h1
        split at h
        · rename_i hid
          have hid : id' = id := Nat.eq_of_beq_eq_true hid
          simp only [Option.some.injEq, Prod.mk.injEq] at h
          obtain ⟨rfl, rfl⟩ := h
          refine ih b h1 m fun E1 a1 w1 m1 g1 g2 => ?_
          show (if id' = id then _ else _)
          rw [if_pos hid]
          exact hQ E1 a1 w1 m1 g1 g2
        · rename_i hid
          have hid : id' ≠ id := fun e => by rw [e, Nat.beq_refl] at hid; cases hid
          simp only [Option.some.injEq, Prod.mk.injEq] at h
          obtain ⟨rfl, rfl⟩ := h
          refine ih b h1 m fun E1 a1 w1 m1 g1 g2 => ?_
          show (if id' = id then _ else _)
          rw [if_neg hid]
          exact hQ E1 a1 w1 m1 g1 g2
      · rename_i hne
        refine ih b h m fun E1 a1 w1 m1 g1 g2 => ?_
        have := hQ E1 a1 w1 m1 g1 g2
        cases e with
        | normal => exact this
        | exit id' => exact absurd h (hne id' X')
        | ret => exact this
    | loop b => exact wp_loop_rounds (k + 1) (loop b h m hQ)
    | scope b =>
      simp only [codeX] at h
      refine wp_scope_straight (ih b h m fun E1 a1 w1 m1 g1 g2 => ?_)
      have := hQ E1 a1 w1 m1 g1 g2
      cases e <;> exact this
    | rangeFunc f ps ars b => simp [codeX] at h
    | label l => simp [codeX] at h
    | goto l => simp [codeX] at h
    | refuse s => simp [codeX] at h
end
theorem resX_sound {P : Program} {C : Cx} {nt : Nat} {X : XS} {E : Env} {a : Act} {w : World} (m : XA C nt X E a w) : ∀ (rs : List ResultVar) (vs : List V), resL (tyOf P) (stX nt X) rs = some vs →
    ∃ us, RVs E w vs us ∧ (rs.mapM (resS a.tmps)).run P w = .ok us w
  | [], vs, h => by
    injection h with h; subst h
    exact ⟨[], rfl, by simp⟩
  | r :: rs, vs, h => by
    unfold resL at h
    cases hr : resV (tyOf P) (stX nt X) r with
    | none => rw [hr] at h; cases h
    | some v =>
      cases hrs : resL (tyOf P) (stX nt X) rs with
      | none => rw [hr, hrs] at h; cases h
      | some vs' =>
        rw [hr, hrs, Option.bind_some, Option.map_some, Option.some.injEq] at h
        subst h
        obtain ⟨us, h1, h2⟩ := resX_sound (P := P) m rs vs' hrs
        have one : ∃ u, RV E w v u ∧ (resS a.tmps r).run P w = .ok u w := by
          cases r with
          | tmp t =>
            simp only [resV] at hr
            injection hr with hr; subst hr
            exact ⟨_, m.slots t, rfl⟩
          | cell b t =>
            simp only [resV] at hr
            cases ht : tyOf P t with
            | none => rw [ht] at hr; cases hr
            | some ti =>
              cases hc : cellsAt (stX nt X).hp ((stX nt X).sl b) with
              | none => rw [ht, hc] at hr; cases hr
              | some cs =>
                rw [ht, hc, Option.bind_some, Option.bind_some] at hr
                obtain ⟨b', o, us', hp, g1, g2, g3, g4⟩ := cellsAt_sound (m.w.ok nt X.sl) (m.slots b) hc
                obtain ⟨x, hx, hrun⟩ := run_loadAt (P := P) (w' := w) ht g1 g2 g3 hr
                refine ⟨x, hx, ?_⟩
                have := hrun w g2
                simp only [Instr.loadAt, Instr.sureAddr, Sem.run_bind, Sem.run_pure, Result.andThen_ok] at this
                simp [resS, hp, asAddr, this]
        obtain ⟨u, hu, hrun⟩ := one
        refine ⟨u :: us, ⟨u, us, rfl, hu, h1⟩, ?_⟩
        rw [List.mapM_cons]
        simp only [Sem.run_bind, hrun, Result.andThen_ok, h2, Sem.run_pure]
theorem outX_sound {P : Program} {C : Cx} {nt : Nat} {X : XS} {E : Env} {a : Act} {w : World} (m : XA C nt X E a w) {fn : Func} {r : V} (h : outV (tyOf P) fn.results.toList (stX nt X) = some r) : ∃ v, RV E w r v ∧ (results fn a.tmps).run P w = .ok v w := by
  unfold outV at h
  cases hl : resL (tyOf P) (stX nt X) fn.results.toList with
  | none => rw [hl] at h; cases h
  | some vs =>
    rw [hl, Option.map_some, Option.some.injEq] at h
    obtain ⟨us, h1, h2⟩ := resX_sound (P := P) m _ _ hl
    have hrun : (results fn a.tmps).run P w = .ok (if h : us.toArray.size = 1 then us.toArray[0] else .tuple us.toArray) w := by
      have e : results fn a.tmps = (do let vs ← fn.results.mapM (resS a.tmps); pure (if h : vs.size = 1 then vs[0] else .tuple vs)) := by
        unfold results
        congr 1
      rw [e, Array.mapM_eq_mapM_toList]
      simp only [Sem.run_bind, map_eq_pure_bind, h2, Result.andThen_ok, Sem.run_pure]
    refine ⟨_, ?_, hrun⟩
    have hlen := RVs_length h1
    split at h
    · rename_i v
      subst h
      obtain ⟨u, r', hu, hv, hr'⟩ := h1
      have : r' = [] := hr'
      subst this; subst hu
      simpa using hv
    · rename_i hne
      subst h
      have hn1 : ¬ us.toArray.size = 1 := by
        intro h
        have hl1 : vs.length = 1 := by rw [← hlen]; simpa using h
        match vs, hl1 with
        | [v], _ => exact hne v rfl
      rw [dif_neg hn1]
      exact ⟨us, rfl, h1⟩
theorem tabX_get : ∀ (l : List V) (i : Nat) (t : Tr V) (j : Nat), (tabX l i t).get j = if i ≤ j ∧ j < i + l.length then l[j - i]? else t.get j
  | [], i, t, j => by rw [if_neg (by simp only [List.length_nil]; omega)]; rfl
  | v :: l, i, t, j => by
    simp only [tabX, tabX_get l (i + 1), Tr.get_put, List.length_cons]
    by_cases h1 : i + 1 ≤ j ∧ j < i + 1 + l.length
    · rw [if_pos h1, if_pos (by omega), show j - i = (j - (i + 1)) + 1 by omega, List.getElem?_cons_succ]
    · rw [if_neg h1]
      by_cases h2 : j = i
      · subst h2
        rw [if_pos rfl, if_pos (by omega), Nat.sub_self, List.getElem?_cons_zero]
      · rw [if_neg h2, if_neg (by omega)]
def CallAt (P : Program) (f : FuncId) (g : Pr → List V → XH → Nat → Option (V × XH × Nat)) : Prop :=
  ∀ fl args H nx v H' nx', g fl args H nx = some (v, H', nx') → Rp.Enters P f ∧ ∀ (C : Cx) (E : Env) (w : World) (vals : List Value), C.pr = fl → XW C nx H E w → ltL nx args = true → RVs E w args vals →
    Calls P f vals.toArray w fun e w' => ∃ u E', e = .returned u ∧ RV E' w' v u ∧ XW C nx' H' E' w' ∧ Agr nx E E' ∧ nx ≤ nx'
def HookOK (P : Program) (hk : HookF) : Prop := ∀ call, CallOK P call → ∀ f g, hk call f = some g → CallAt P f g
theorem fnX_sound {P : Program} {hk : HookF} (hhk : HookOK P hk) {sq : List TypeId} (hsq : SqOK P sq) (hm : P.follows .mixedOrders = true) {ft : FuncId → Option Func} (hft : ∀ f fn, ft f = some fn → P.funcs[f]? = some fn ∧ Rp.Enters P f) (F : Nat) : ∀ d, CallOK P (fnX hk ft ⟨tyOf P, sq⟩ F d)
  | 0 => by intro fl f args H nx v H' nx' h; simp [fnX] at h
  | d + 1 => by
    have ih := fnX_sound hhk hsq hm hft F d
    intro fl f args H nx v H' nx' h
    simp only [fnX] at h
    split at h
    · rename_i g hg
      exact hhk _ ih f g hg fl args H nx v H' nx' h
    rename_i hnog
    split at h
    · rename_i fn hfn
      obtain ⟨hf, hent⟩ := hft f fn hfn
      refine ⟨hent, fun C E w vals hC hw hlt hv => ?_⟩
      subst hC
      split at h
      · rename_i c hb
        split at h
        · rename_i hle
          have hle : args.length ≤ fn.ntmps := Nat.le_of_ble_eq_true hle
          have hlen := RVs_length hv
          refine calls_of_wp hf hb ?_
          have hw : XW { C with df := [] } nx H E w := ⟨hw.hold, hw.lt, hw.inj, hw.mine, hw.z, hw.xs, hw.below, hw.kp⟩
          have m : XA { C with df := [] } fn.ntmps ⟨tabX args 0 .nil, H, nx⟩ E { tmps := vals.toArray ++ Array.replicate (fn.ntmps - vals.toArray.size) undef, defers := [] } w := by
            refine ⟨by simp [hlen]; omega, fun t => ?_, fun t x hg => ?_, rfl, hw⟩
            · show RV E w (((tabX args 0 .nil).get t).getD .junk) _
              rw [tabX_get]
              by_cases ht : t < args.length
              · rw [if_pos (by omega), Nat.sub_zero]
                obtain ⟨u, hu, hr⟩ := RVs_get hv (List.getElem?_eq_getElem ht)
                rw [List.getElem?_eq_getElem ht, Option.getD_some]
                have e : (vals.toArray ++ Array.replicate (fn.ntmps - vals.toArray.size) undef).getD t undef = u := by
                  rw [Array.getD_eq_getD_getElem?, Array.getElem?_append_left (by simp; omega)]
                  simp [hu]
                show RV E w _ ((vals.toArray ++ Array.replicate (fn.ntmps - vals.toArray.size) undef).getD t undef)
                rw [e]; exact hr
              · rw [if_neg (by omega)]
                trivial
            · have hg : (tabX args 0 .nil).get t = some x := hg
              rw [tabX_get] at hg
              split at hg
              · exact ltL_iff.1 hlt x (List.mem_of_getElem? hg)
              · cases hg
          split at h
          · cases h
          · rename_i e X1 hne h1
            split at h
            · rename_i r hr
              split at h
              · rename_i hvl
                simp only [Option.some.injEq, Prod.mk.injEq] at h
                obtain ⟨rfl, rfl, rfl⟩ := h
                refine (codeX_sound (C := { C with df := [] }) hsq ih hm F).1 c h1 m fun E' a' w' m' ha hle' => ?_
                obtain ⟨u, hu, hrun⟩ := outX_sound m' hr
                cases e with
                | normal => exact ⟨m'.dfr, u, hrun, u, E', rfl, hu, ⟨m'.w.hold, m'.w.lt, m'.w.inj, m'.w.mine, m'.w.z, m'.w.xs, m'.w.below, m'.w.kp⟩, ha, hle'⟩
                | ret => exact ⟨m'.dfr, u, hrun, u, E', rfl, hu, ⟨m'.w.hold, m'.w.lt, m'.w.inj, m'.w.mine, m'.w.z, m'.w.xs, m'.w.below, m'.w.kp⟩, ha, hle'⟩
                | exit id => exact absurd rfl (hne id)
              · cases h
            · cases h
          · cases h
        · cases h
      · cases h
    · cases h
end Go.Xm
end
section
namespace Go.Xm
open Go.Ab Go.RowKit
def Tr.toL {α : Type} : Tr α → (Nat → Nat) → List (Nat × α)
  | .nil, _ => []
  | .node l v r, g => (match v with
    | some a => [(g 0, a)]
    | none => []) ++ l.toL (fun i => g (2 * i + 1)) ++ r.toL (fun i => g (2 * i + 2))
theorem Tr.mem_toL {α : Type} : ∀ (t : Tr α) (g : Nat → Nat) {i : Nat} {a : α}, t.get i = some a → (g i, a) ∈ t.toL g
  | .nil, _, _, _, h => by simp [Tr.get] at h
  | .node l v r, g, i, a, h => by
    unfold Tr.toL
    unfold Tr.get at h
    cases i with
    | zero => dsimp only at h; subst h; simp
    | succ n =>
      dsimp only at h
      split at h
      · rename_i hm
        have := Tr.mem_toL l (fun i => g (2 * i + 1)) h
        have e : 2 * (n / 2) + 1 = n + 1 := by omega
        simp only [e] at this
        exact List.mem_append.2 (.inl (List.mem_append.2 (.inr this)))
      · rename_i k hm
        have := Tr.mem_toL r (fun i => g (2 * i + 2)) h
        have e : 2 * (n / 2) + 2 = n + 1 := by omega
        simp only [e] at this
        exact List.mem_append.2 (.inr this)
def Idle (P : Program) (g : FuncId) : Prop := Rp.Enters P g ∧ ∀ (args : Array Value) (w : World), CallsD P g args .returning w fun e u' w' => (∃ v, e = .returned v) ∧ u' = .returning ∧ w' = w
def tryH (G : Pg) (F : Nat) (fn : Func) (c0 : Code) (o1 : Oper) (g : FuncId) (c2 : Code) (call : CallF) : Pr → List V → XH → Nat → Option (V × XH × Nat) := fun fl args H nx =>
  match Nat.ble args.length fn.ntmps with
  | true => match codeX call G fl fn.ntmps F c0 ⟨tabX args 0 .nil, H, nx⟩ with
    | some (.normal, X1) => match pG G (stX fn.ntmps X1) X1.H o1.op, isLoad o1.op with
      | some (.fn (.func g') caps), false => match Nat.beq g g', putX fn.ntmps X1 o1.dst (.fn (.func g') caps) with
        | true, some X2 => match codeX call G fl fn.ntmps F c2 X2 with
          | some (.exit _, _) => none
          | some (_, X3) => match outV G.ty fn.results.toList (stX fn.ntmps X3) with
            | some v => match ltV X3.nx v with
              | true => some (v, X3.H, X3.nx)
              | false => none
            | none => none
          | none => none
        | _, _ => none
      | _, _ => none
    | _ => none
  | false => none
theorem XW.df {C : Cx} {nx : Nat} {H : XH} {E : Env} {w : World} (h : XW C nx H E w) (d : List Deferred) : XW { C with df := d } nx H E w := ⟨h.hold, h.lt, h.inj, h.mine, h.z, h.xs, h.below, h.kp⟩
theorem XA.df {C : Cx} {nt : Nat} {X : XS} {E : Env} {a : Act} {w : World} (h : XA C nt X E a w) (d : Deferred) : XA { C with df := d :: C.df } nt X E { a with defers := d :: a.defers } w :=
  ⟨h.nt, h.slots, h.lt, by rw [← h.dfr], h.w.df _⟩
theorem tryH_sound {P : Program} {sq : List TypeId} (hsq : SqOK P sq) (hm : P.follows .mixedOrders = true) {call : CallF} (hcall : CallOK P call) {f g : FuncId} {fn : Func} {c0 c2 : Code} {o1 o2 : Oper} {i1 : Nat} {d : Tmp} (F : Nat)
    (hf : P.funcs[f]? = some fn) (hent : Rp.Enters P f) (hb : fn.body = some (.seq c0 (.seq (.region i1 #[o1, o2] false) c2))) (h1 : o1.guard = none) (h1d : o1.dst = some d) (h2 : o2.guard = none) (h2d : o2.dst = none) (h2o : ∃ ts, o2.op = .defer ⟨.value (.tmp d), #[], ts⟩)
    (hidle : Idle P g) : CallAt P f (tryH ⟨tyOf P, sq⟩ F fn c0 o1 g c2 call) := by
  intro fl args H nx v H' nx' h
  refine ⟨hent, fun C E w vals hC hw hlt hv => ?_⟩
  subst hC
  unfold tryH at h
  split at h
  · rename_i hle
    have hle : args.length ≤ fn.ntmps := Nat.le_of_ble_eq_true hle
    have hlen := RVs_length hv
    have m : XA { C with df := [] } fn.ntmps ⟨tabX args 0 .nil, H, nx⟩ E { tmps := vals.toArray ++ Array.replicate (fn.ntmps - vals.toArray.size) undef, defers := [] } w := by
      refine ⟨by simp [hlen]; omega, fun t => ?_, fun t x hg => ?_, rfl, hw.df []⟩
      · show RV E w (((tabX args 0 .nil).get t).getD .junk) _
        rw [tabX_get]
        by_cases ht : t < args.length
        · rw [if_pos (by omega), Nat.sub_zero]
          obtain ⟨u, hu, hr⟩ := RVs_get hv (List.getElem?_eq_getElem ht)
          rw [List.getElem?_eq_getElem ht, Option.getD_some]
          have e : (vals.toArray ++ Array.replicate (fn.ntmps - vals.toArray.size) undef).getD t undef = u := by
            rw [Array.getD_eq_getD_getElem?, Array.getElem?_append_left (by simp; omega)]
            simp [hu]
          show RV E w _ ((vals.toArray ++ Array.replicate (fn.ntmps - vals.toArray.size) undef).getD t undef)
          rw [e]; exact hr
        · rw [if_neg (by omega)]
          trivial
      · have hg : (tabX args 0 .nil).get t = some x := hg
        rw [tabX_get] at hg
        split at hg
        · exact ltL_iff.1 hlt x (List.mem_of_getElem? hg)
        · cases hg
    split at h
    · rename_i X1 hc0
      split at h
      · rename_i g' caps hv1 hl1
        split at h
        · rename_i X2 hgg hp1
          have hgg : g = g' := Nat.eq_of_beq_eq_true hgg
          subst hgg
          refine calls_of_wp_defers hf hb (wp_seq ?_)
          refine (codeX_sound (C := { C with df := [] }) hsq hcall hm F).1 c0 hc0 m fun E1 a1 w1 m1 q1 q2 => ?_
          refine wp_seq (wp_region_list ?_)
          obtain ⟨u, hu, hrun⟩ := pG_any hsq m1.w m1.ev rfl hv1
          obtain ⟨m2, hn2⟩ := m1.put hp1 hu
          have hu2 := hu
          obtain ⟨cv, rfl, hcv⟩ := hu2
          rw [show (#[o1, o2] : Array Oper).toList = [o1, o2] from rfl]
          unfold wpList
          rw [if_pos (by simp [Region.wanted, h1])]
          refine .inl ?_
          unfold Oper.wp
          rw [hrun w1 (fun e => by rw [hl1] at e; cases e)]
          show wpList P #[o1, o2] _ [o2] (a1.put o1.dst (.func (.func g) #[] cv.toArray)) w1
          unfold wpList
          rw [if_pos (by simp [Region.wanted, h2])]
          refine .inl ?_
          obtain ⟨ts, h2o⟩ := h2o
          have hev : (a1.put o1.dst (.func (.func g) #[] cv.toArray)).eval (.tmp d) = .func (.func g) #[] cv.toArray := by
            have hlt : d < a1.tmps.size := by
              rw [m1.nt]
              unfold putX putS at hp1
              rw [h1d] at hp1
              dsimp only at hp1
              split at hp1
              · rename_i sl hs
                split at hs
                · rename_i hc
                  rw [Bool.and_eq_true] at hc
                  exact blt_iff.1 hc.1
                · cases hs
              · cases hp1
            rw [h1d]
            show (a1.put (some d) (.func (.func g) #[] cv.toArray)).tmps.getD d undef = _
            simp [Act.put, Array.getD_eq_getD_getElem?, hlt]
          have hrun2 : ∀ w', (execOp (a1.put o1.dst (.func (.func g) #[] cv.toArray)).eval o2).run P w' = .ok (.defer ⟨.fn (.func g) cv.toArray, #[]⟩) w' := fun w' => by
            unfold execOp
            rw [h2o]
            simp [resolve, hev, Deferred.ofValue]
          unfold Oper.wp
          rw [hrun2]
          simp only [Oper.upon, h2d]
          have m2' := m2.df ⟨.fn (.func g) cv.toArray, #[]⟩
          split at h
          · cases h
          · rename_i e X3 hne hc2
            split at h
            · rename_i r hr
              split at h
              · rename_i hvl
                simp only [Option.some.injEq, Prod.mk.injEq] at h
                obtain ⟨rfl, rfl, rfl⟩ := h
                refine (codeX_sound (C := { C with df := [⟨.fn (.func g) cv.toArray, #[]⟩] }) hsq hcall hm F).1 c2 hc2 ⟨m2'.nt, m2'.slots, m2'.lt, m2'.dfr, m2'.w.df _⟩ fun E3 a3 w3 m3 q3 q4 => ?_
                obtain ⟨u, hu, hrun⟩ := outX_sound m3 hr
                have fin : Leaves P fn a3.tmps (fun e w' => ∃ u E', e = .returned u ∧ RV E' w' r u ∧ XW C X3.nx X3.H E' w' ∧ Agr nx E E' ∧ nx ≤ X3.nx) a3.defers .returning w3 := by
                  rw [m3.dfr]
                  refine leaves_cons (f := g) (args := #[] ++ cv.toArray) (by simp) (by simp only [invoke]; exact hidle.1 _ _) ?_
                  refine (hidle.2 _ w3).mono ?_
                  rintro e u' w' ⟨⟨v, rfl⟩, rfl, rfl⟩
                  refine ⟨u, hrun, u, E3, rfl, hu, ⟨m3.w.hold, m3.w.lt, m3.w.inj, m3.w.mine, m3.w.z, m3.w.xs, m3.w.below, m3.w.kp⟩, ?_, ?_⟩
                  · have e1 : X2.nx = X1.nx := hn2
                    exact (q1.trans q2 (Agr.refl _ _)).trans q2 (by rw [e1] at q3; exact q3)
                  · have e1 : X2.nx = X1.nx := hn2
                    have : nx ≤ X1.nx := q2
                    omega
                cases e with
                | normal => exact fin
                | ret => exact fin
                | exit id => exact absurd rfl (hne id)
              · cases h
            · cases h
          · cases h
        · cases h
      · cases h
    · cases h
  · cases h
end Go.Xm
end
section
namespace Go.Xm
open Go.Ab Go.RowKit
structure Memo where
  f : FuncId
  fl : Nat
  args : List V
  H : XH
  nx : Nat
  v : V
  H1 : XH
  nx1 : Nat
def memoH (m : Memo) : Pr → List V → XH → Nat → Option (V × XH × Nat) := fun fl args H nx =>
  match fl.ids with
  | [] => match Nat.beq fl.fl m.fl && Nat.beq nx m.nx && eqVs args m.args && eqTr eqXB H m.H with
    | true => some (m.v, m.H1, m.nx1)
    | false => none
  | _ :: _ => none
def memoB (call : CallF) (m : Memo) : Bool :=
  match call ⟨m.fl, []⟩ m.f m.args m.H m.nx with
  | some (v, H, nx) => Nat.beq nx m.nx1 && eqV v m.v && eqTr eqXB H m.H1
  | none => false
theorem memoB_eq {call : CallF} {m : Memo} (h : memoB call m = true) : call ⟨m.fl, []⟩ m.f m.args m.H m.nx = some (m.v, m.H1, m.nx1) := by
  unfold memoB at h
  split at h
  · rename_i v H nx hc
    simp only [Bool.and_eq_true] at h
    obtain ⟨⟨h1, h2⟩, h3⟩ := h
    rw [hc, Nat.eq_of_beq_eq_true h1, eqV_eq _ _ h2, eqTr_eq eqXB_eq _ _ h3]
  · cases h
theorem memo_at {P : Program} {call : CallF} (hcall : CallOK P call) {m : Memo} (h : memoB call m = true) : CallAt P m.f (memoH m) := by
  intro fl args H nx v H' nx' hm
  unfold memoH at hm
  split at hm
  · rename_i hids
    split at hm
    · rename_i hc
      simp only [Bool.and_eq_true] at hc
      obtain ⟨⟨⟨h1, h2⟩, h3⟩, h4⟩ := hc
      have h1 := Nat.eq_of_beq_eq_true h1
      have h2 := Nat.eq_of_beq_eq_true h2
      have h3 := eqVs_eq _ _ h3
      have h4 := eqTr_eq eqXB_eq _ _ h4
      simp only [Option.some.injEq, Prod.mk.injEq] at hm
      obtain ⟨rfl, rfl, rfl⟩ := hm
      have hfl : fl = ⟨m.fl, []⟩ := by cases fl; simp_all
      subst h2; subst h3; subst h4; subst hfl
      exact hcall _ _ _ _ _ _ _ _ (memoB_eq h)
    · cases hm
  · cases hm
def addM (hk : HookF) (m : Memo) : HookF := fun call f => match Nat.beq f m.f with
  | true => some (memoH m)
  | false => hk call f
theorem addM_ok {P : Program} {hk : HookF} (hhk : HookOK P hk) {call : CallF} (hcall : CallOK P call) {m : Memo} (h : memoB call m = true) : HookOK P (addM hk m) := by
  intro call' hc' f g hg
  unfold addM at hg
  split at hg
  · rename_i hf
    have hf := Nat.eq_of_beq_eq_true hf
    subst hf
    injection hg with hg; subst hg
    exact memo_at hcall h
  · exact hhk call' hc' f g hg
namespace Mm
abbrev I (n : Int) : V := .d (.lit (.int .i64 n))
abbrev K (k : IntKind) (n : Int) : V := .d (.lit (.int k n))
abbrev B (a : Array UInt8) : V := .d (.lit (.string ⟨a⟩))
abbrev L (v : Value) : V := .d (.lit v)
abbrev T : V := .d (.lit (.bool true))
abbrev F : V := .d (.lit (.bool false))
abbrev S : V := .d (.lit (.slice none 0 0))
abbrev N : Tr XB := .nil
abbrev D (l : Tr XB) (v : Option XB) (r : Tr XB) : Tr XB := .node l v r
end Mm
end Go.Xm
end
