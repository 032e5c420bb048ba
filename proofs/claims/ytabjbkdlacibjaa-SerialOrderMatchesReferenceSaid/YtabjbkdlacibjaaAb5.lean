/- The abstract machine: the pure operations evaluated, sound. -/
import Derived.Test.YtabjbkdlacibjaaAb4
namespace Go.Ab
open Go.RowKit

def placesOf (ty : TypeId → Option TI) (fs : List Field) : Option (List (Nat × Nat)) := fs.mapM fun f => (ty f.type).map fun ti => (f.offset, ti.size)

theorem places_info {P : Program} : ∀ {fs : List Field} {r : List (Nat × Nat)}, placesOf (tyOf P) fs = some r → fs.mapM (fun f => (P.info? f.type).map fun i => (f.offset, i.size)) = some r
  | [], r, h => h
  | f :: fs, r, h => by
    unfold placesOf at h
    simp only [List.mapM_cons, Option.bind_eq_bind, Option.pure_def] at h ⊢
    cases ht : tyOf P f.type with
    | none => simp [ht] at h
    | some ti =>
      cases hr : fs.mapM (fun f => (tyOf P f.type).map fun ti => (f.offset, ti.size)) with
      | none => simp [ht, hr] at h
      | some rest =>
        obtain ⟨_, i, hi, hs, _⟩ := tyOf_spec ht
        have := places_info (P := P) (fs := fs) hr
        simp only [ht, hr, Option.map_some, Option.bind_some] at h
        simp [hi, hs, this, h]

def isRow (d : TypeDesc) : Bool := TypeDesc.row d

def buildV (ty : TypeId → Option TI) (ti : TI) (parts : List (Nat × V)) : Option V :=
  match ti.desc with
  | .struct fs => (placesOf ty fs.toList).bind fun places => if ti.zero.cells.toList.all plain then (fillV (places[·]?) (ti.zero.cells.toList.map fun c => V.d (.lit c)) parts).map .agg else none
  | .array _ e => (ty e).bind fun te => if ti.zero.cells.toList.all plain then (fillV (fun i => some (i * te.size, te.size)) (ti.zero.cells.toList.map fun c => V.d (.lit c)) parts).map .agg else none
  | _ => none

/-- min and max of integers -/
def minV (mx : Bool) (k : IntKind) (x : Int) : List V → Option V
  | [] => some (.d (.lit (.int k x)))
  | .d (.lit (.int k' y)) :: r => if k = k' then minV mx k (if mx then (if y > x then y else x) else (if y < x then y else x)) r else none
  | _ => none
def minL (mx : Bool) : List V → Option V
  | .d (.lit (.int k x)) :: r => minV mx k x r
  | _ => none

def fnV (f : Fn) (caps : List V) : V := .fn f caps

def pureV (ty : TypeId → Option TI) (S : St) : Op → Option V
  | .move x | .assign x => some (S.ev x)
  | .pick c a b => match S.ev c with
    | .d (.lit (.bool t)) => some (if t then S.ev a else S.ev b)
    | _ => none
  | .load T a => (ty T).bind fun ti => (cellsAt S.hp (S.ev a)).bind fun cs => ldV ti cs
  | .binOp op T x y _ => match S.ev x, S.ev y with
    | .d (.lit (.bool a)), .d (.lit (.bool b)) => (ty T).bind fun ti => match ti.desc, op with
        | .bool, .eql => some (.d (.lit (.bool (a == b))))
        | .bool, .neq => some (.d (.lit (.bool !(a == b))))
        | _, _ => none
    | .d (.lit a), .d (.lit b) => match litOp op a b with
        | some r => some (.d (.lit r))
        | none => (ty T).bind fun ti => match op with
            | .eql => (eqNil ti.desc (.d (.lit a)) b).map fun r => .d (.lit (.bool r))
            | .neq => (eqNil ti.desc (.d (.lit a)) b).map fun r => .d (.lit (.bool !r))
            | _ => none
    | a, .d (.lit b) => (ty T).bind fun ti => match op with
        | .eql => (eqNil ti.desc a b).map fun r => .d (.lit (.bool r))
        | .neq => (eqNil ti.desc a b).map fun r => .d (.lit (.bool !r))
        | _ => none
    | _, _ => none
  | .unOp op _ x => match op, S.ev x with
    | .not, .d (.lit (.bool b)) => some (.d (.lit (.bool !b)))
    | .neg, .d (.lit (.int k n)) => some (.d (.lit (.int k (k.wrap (0 - n)))))
    | _, _ => none
  | .convert src dst x => (ty src).bind fun ts => (ty dst).bind fun td => match ts.desc, td.desc, S.ev x with
    | .int _, .int k, .d (.lit (.int _ n)) => some (.d (.lit (.int k (k.wrap n))))
    | .string, .string, .d (.lit (.string s)) => some (.d (.lit (.string s)))
    | _, _, _ => none
  | .fieldAddr T x f => (ty T).bind fun ti => match ti.desc with
    | .struct fs => match fs[f]? with
      | some fd => (ty fd.type).bind fun tf => if tf.size = 0 then none else offP (S.ev x) fd.offset
      | none => none
    | _ => none
  | .field T x f => (ty T).bind fun ti => match ti.desc with
    | .struct fs => match fs[f]?, S.ev x with
      | some fd, .agg cs => (ty fd.type).bind fun tf => if isRow tf.desc then (if fd.offset + tf.size ≤ cs.length then some (.agg ((cs.drop fd.offset).take tf.size)) else none) else cs[fd.offset]?
      | _, _ => none
    | _ => none
  | .indexAddr T x i => (ty T).bind fun ti => match ti.desc, S.ev i with
    | .slice e, .d (.lit (.int _ n)) => (ty e).bind fun te => idxS S.hp (S.ev x) n te.size
    | .array len e, .d (.lit (.int _ n)) => (ty e).bind fun te => if 0 ≤ n ∧ n < len then offP (S.ev x) (n.toNat * te.size) else none
    | _, _ => none
  | .index T x i => (ty T).bind fun ti => match ti.desc, S.ev x, S.ev i with
    | .string, .d (.lit (.string s)), .d (.lit (.int _ n)) => if 0 ≤ n then (match s[n.toNat]? with | some b => some (.d (.lit (.int .u8 b.toNat))) | none => none) else none
    | .array len e, .agg cs, .d (.lit (.int _ n)) => (ty e).bind fun te => if 0 ≤ n ∧ n < len then (if isRow te.desc then (if n.toNat * te.size + te.size ≤ cs.length then some (.agg ((cs.drop (n.toNat * te.size)).take te.size)) else none) else cs[n.toNat * te.size]?) else none
    | _, _, _ => none
  | .extract t i => match S.ev t with
    | .tup cs => cs[i]?
    | _ => none
  | .slice T x lo hi mx => (ty T).bind fun ti => match ti.desc with
    | .string => match S.ev x with
      | .d (.lit (.string s)) => sliceStr s (lo.map S.ev) (hi.map S.ev) (mx.map S.ev)
      | _ => none
    | .slice e => (ty e).bind fun te => match S.ev x with
      | .d (.sl es) => if es.all (fun e => e.length = te.size) then sliceSl es (lo.map S.ev) (hi.map S.ev) (mx.map S.ev) else none
      | .ref id off len => match S.hp id with
        | some (.arr _ n _) => if n = te.size then sliceRef id off len (lo.map S.ev) (hi.map S.ev) (mx.map S.ev) else none
        | _ => none
      | _ => none
    | _ => none
  | .build T parts => (ty T).bind fun ti => buildV ty ti (parts.toList.map fun p => (p.1, S.ev p.2))
  | .makeFunc f first caps => if first.isEmpty then some (.fn f (caps.toList.map S.ev)) else none
  | .makeInterface T x => (ty T).bind fun ti => match ti.desc, S.ev x with
    | .interface _, _ => none
    | _, .d x => some (.d (.ifc T x))
    | _, _ => none
  | .nilCheck x => match S.ev x with
    | .ptr id i off => some (.ptr id i off)
    | .d (.pim cs) => some (.d (.pim cs))
    | .fn (.func f) caps => some (.fn (.func f) caps)
    | _ => none
  | .call c => match c.callee with
    | .builtin .len => match c.args.toList, c.argTypes.toList with
      | [x], [T] => (ty T).bind fun ti => match ti.desc with
        | .slice _ => (lenV (S.ev x)).map fun (n : Nat) => V.d (.lit (.int .i64 (n : Int)))
        | .string => match S.ev x with | .d (.lit (.string s)) => some (.d (.lit (.int .i64 s.size))) | _ => none
        | .array n _ => some (.d (.lit (.int .i64 n)))
        | _ => none
      | _, _ => none
    | .builtin .min => minL false (c.args.toList.map S.ev)
    | .builtin .max => minL true (c.args.toList.map S.ev)
    | _ => none
  | _ => none

theorem run_part {P : Program} {T : TypeId} {ti : TI} (ht : tyOf P T = some ti) {E : Env} {w w' : World} {cs : List V} {vs : List Value} (h : RVs E w cs vs) (hc : ∀ c ∈ cs, c.cell = true) {off : Nat} {r : V}
    (hr : (if isRow ti.desc then (if off + ti.size ≤ cs.length then some (V.agg ((cs.drop off).take ti.size)) else none) else cs[off]?) = some r) : ∃ x, RV E w r x ∧ ∀ w', (part T vs.toArray off).run P w' = .ok x w' := by
  have hl := RVs_length h
  unfold isRow at hr
  split at hr
  · rename_i hrow
    split at hr
    · injection hr with hr
      subst hr
      refine ⟨.agg ((vs.drop off).take ti.size).toArray, ⟨_, rfl, fun c h => hc c (List.mem_of_mem_drop (List.mem_of_mem_take h)), RVs_take _ (RVs_drop _ h)⟩, fun w'' => ?_⟩
      have hagg : (isAgg T).run P w'' = .ok true w'' := by
        unfold isAgg
        rw [Sem.run_bind, run_und ht w'']
        cases hd : ti.desc <;> simp_all [TypeDesc.row]
      simp [part, hagg, run_sizeOf ht w'', List.drop_take]
    · cases hr
  · rename_i hrow
    obtain ⟨x, hx, hrx⟩ := RVs_get h hr
    refine ⟨x, hrx, fun w'' => ?_⟩
    have hagg : (isAgg T).run P w'' = .ok false w'' := by
      unfold isAgg
      rw [Sem.run_bind, run_und ht w'']
      cases hd : ti.desc <;> simp_all [TypeDesc.row]
    simp [part, hagg, hx]

theorem RD_lit {E : Env} {w : World} {v x : Value} (h : RV E w (.d (.lit v)) x) : x = v := h.1

theorem run_min {P : Program} {E : Env} {w : World} (mx : Bool) : ∀ (r : List V) (vs : List Value) (k : IntKind) (x : Int) (v : V), RVs E w r vs → minV mx k x r = some v → ∃ u, RV E w v u ∧ ∀ w', (vs.foldlM (if mx then Builtin.max2 else Builtin.min2) (.int k x)).run P w' = .ok u w'
  | [], vs, k, x, v, h, hv => by
    have : vs = [] := h
    subst this
    injection hv with hv
    subst hv
    exact ⟨_, ⟨rfl, rfl⟩, fun w' => rfl⟩
  | .d (.lit (.int k' y)) :: r, vs, k, x, v, ⟨u, us, hvs, h1, h2⟩, hv => by
    subst hvs
    have hu := RD_lit h1
    subst hu
    simp only [minV] at hv
    split at hv
    · rename_i hk
      subst hk
      obtain ⟨z, hz, hrun⟩ := run_min mx r us k _ v h2 hv
      refine ⟨z, hz, fun w' => ?_⟩
      have := hrun w'
      cases mx <;> simpa [List.foldlM_cons, Builtin.min2, Builtin.max2] using this
    · cases hv

theorem bounds_none {P : Program} {E : Env} {w w' : World} {ρ : Operand → Value} {ev : Operand → V} (hev : ∀ x, RV E w (ev x) (ρ x)) {lo hi : Option Operand} {b : Bool} {len cap h l : Nat} (hlc : len ≤ cap)
    (hh : bnd (hi.map ev) len len = some h) (hl : bnd (lo.map ev) 0 h = some l) : (Instr.sliceBounds b len cap (lo.map ρ) (hi.map ρ) none).run P w' = .ok (l, h, cap) w' ∧ l ≤ h ∧ h ≤ len := by
  have hlow : ∀ code, ((match lo.map ρ with | some v => Instr.sliceBound v h code | none => pure 0 : Sem Nat)).run P w' = .ok l w' ∧ l ≤ h := fun code => by
    cases lo with
    | none => have := bnd_none hl; subst this; exact ⟨rfl, Nat.zero_le _⟩
    | some o => exact bnd_some (P := P) (hev o) hl (Nat.le_refl _) code
  cases hi with
  | none =>
    have := bnd_none hh; subst this
    refine ⟨?_, (hlow .index).2, Nat.le_refl _⟩
    cases lo with
    | none => have := bnd_none hl; subst this; simp [Instr.sliceBounds]
    | some o => simp [Instr.sliceBounds, (bnd_some (P := P) (hev o) hl (Nat.le_refl _) _).1]
  | some o2 =>
    have h2 := fun code => bnd_some (P := P) (w' := w') (hev o2) hh hlc code
    refine ⟨?_, (hlow .index).2, (h2 .index).2⟩
    cases lo with
    | none => have := bnd_none hl; subst this; simp [Instr.sliceBounds, (h2 _).1]
    | some o => simp [Instr.sliceBounds, (h2 _).1, (bnd_some (P := P) (hev o) hl (Nat.le_refl _) _).1]

theorem bounds_some {P : Program} {E : Env} {w w' : World} {ρ : Operand → Value} {ev : Operand → V} (hev : ∀ x, RV E w (ev x) (ρ x)) {lo : Option Operand} {hi mx : Operand} {b : Bool} {len cap m h l : Nat} (hlc : len ≤ cap)
    (hm : bnd (some (ev mx)) 0 len = some m) (hh : bnd (some (ev hi)) 0 m = some h) (hl : bnd (lo.map ev) 0 h = some l) : (Instr.sliceBounds b len cap (lo.map ρ) (some (ρ hi)) (some (ρ mx))).run P w' = .ok (l, h, m) w' ∧ l ≤ h ∧ h ≤ m ∧ m ≤ len := by
  have h1 := fun code => bnd_some (P := P) (w' := w') (hev mx) hm hlc code
  have h2 := fun code => bnd_some (P := P) (w' := w') (hev hi) hh (Nat.le_refl _) code
  cases lo with
  | none =>
    have := bnd_none hl; subst this
    exact ⟨by simp [Instr.sliceBounds, (h1 _).1, (h2 _).1], Nat.zero_le _, (h2 .index).2, (h1 .index).2⟩
  | some o =>
    have h3 := fun code => bnd_some (P := P) (w' := w') (hev o) hl (Nat.le_refl _) code
    exact ⟨by simp [Instr.sliceBounds, (h1 _).1, (h2 _).1, (h3 _).1], (h3 .index).2, (h2 .index).2, (h1 .index).2⟩

theorem sliceAt_sound {P : Program} {S : St} {E : Env} {w : World} {ρ : Operand → Value} (ok : E.ok S.hp w) (hev : ∀ x, RV E w (S.ev x) (ρ x)) {T : TypeId} {x : Operand} {lo hi mx : Option Operand} {v : V} {ti : TI} (hT : tyOf P T = some ti)
    (h : (match ti.desc with
    | .string => match S.ev x with
      | .d (.lit (.string s)) => sliceStr s (lo.map S.ev) (hi.map S.ev) (mx.map S.ev)
      | _ => none
    | .slice e => (tyOf P e).bind fun te => match S.ev x with
      | .d (.sl es) => if es.all (fun e => e.length = te.size) then sliceSl es (lo.map S.ev) (hi.map S.ev) (mx.map S.ev) else none
      | .ref id off len => match S.hp id with
        | some (.arr _ n _) => if n = te.size then sliceRef id off len (lo.map S.ev) (hi.map S.ev) (mx.map S.ev) else none
        | _ => none
      | _ => none
    | _ => none) = some v) : ∃ u, RV E w v u ∧ ∀ w', (Instr.sliceAt T (ρ x) (lo.map ρ) (hi.map ρ) (mx.map ρ)).run P w' = .ok u w' := by
  have hx := hev x
  split at h
  · rename_i hd
    split at h
    · rename_i s hs
      rw [hs] at hx
      have hx := RD_lit hx
      unfold sliceStr at h
      split at h
      · cases h
      · rename_i hmx
        have hmx' : mx = none := by cases mx <;> simp_all
        subst hmx'
        cases hh : bnd (hi.map S.ev) s.size s.size with
        | none => simp [hh] at h
        | some hq =>
          cases hl : bnd (lo.map S.ev) 0 hq with
          | none => simp [hh, hl] at h
          | some lq =>
            simp only [hh, hl, Option.bind_some, Option.some.injEq] at h
            subst h
            refine ⟨_, ⟨rfl, rfl⟩, fun w' => ?_⟩
            have u1 := run_und hT w'
            rw [hd] at u1
            have hb := (bounds_none (P := P) (w' := w') hev (b := false) (Nat.le_refl _) hh hl).1
            simp [Instr.sliceAt, Instr.slice, u1, hx, hb]
    · cases h
  · rename_i e hd
    cases hE : tyOf P e with
    | none => simp [hE] at h
    | some te =>
      simp only [hE, Option.bind_some] at h
      split at h
      · rename_i es hes
        rw [hes] at hx
        split at h
        · rename_i hall
          have hsz : ∀ e ∈ es, e.length = te.size := fun e he => of_decide_eq_true (List.all_eq_true.1 hall e he)
          have hx' := hx
          obtain ⟨A, cap, hp, h1, h2, h3, h4⟩ := hx
          rw [hp] at hx'
          unfold sliceSl at h
          cases mx with
          | none =>
            simp only [Option.map_none] at h
            cases hh : bnd (hi.map S.ev) es.length es.length with
            | none => simp [hh] at h
            | some hq =>
              cases hl : bnd (lo.map S.ev) 0 hq with
              | none => simp [hh, hl] at h
              | some lq =>
                simp only [hh, hl, Option.bind_some, Option.some.injEq] at h
                subst h
                obtain ⟨_, hb1, hb2⟩ := bounds_none (P := P) (w' := w) hev (b := true) h1 hh hl
                refine ⟨_, sl_part hx' hsz hb1 hb2 (Nat.le_trans hb2 h1) (Nat.le_refl cap), fun w' => ?_⟩
                have u1 := run_und hT w'
                rw [hd] at u1
                have hb := (bounds_none (P := P) (w' := w') hev (b := true) h1 hh hl).1
                simp [Instr.sliceAt, Instr.slice, u1, hp, hb, run_sizeOf hE w']
          | some m =>
            cases hi with
            | none => simp at h
            | some hio =>
              simp only [Option.map_some, Option.isNone_some, Bool.false_eq_true, if_false] at h
              cases hm : bnd (some (S.ev m)) 0 es.length with
              | none => simp [hm] at h
              | some mq =>
                cases hh : bnd (some (S.ev hio)) 0 mq with
                | none => simp [hm, hh] at h
                | some hq =>
                  cases hl : bnd (lo.map S.ev) 0 hq with
                  | none => simp [hm, hh, hl] at h
                  | some lq =>
                    simp only [hm, hh, hl, Option.bind_some] at h
                    obtain ⟨_, hb1, hb2, hb3⟩ := bounds_some (P := P) (w' := w) hev (b := true) h1 hm hh hl
                    have hpart := sl_part hx' hsz hb1 (Nat.le_trans hb2 hb3) hb2 (Nat.le_trans hb3 h1)
                    have hlen : ((es.take hq).drop lq).length = hq - lq := by rw [List.length_drop, List.length_take]; omega
                    have hrun : ∀ w', (Instr.sliceAt T (ρ x) (lo.map ρ) (some (ρ hio)) (some (ρ m))).run P w' = .ok (.slice (if mq = lq then A else A.map (·.add (lq * te.size))) (hq - lq) (mq - lq)) w' := fun w' => by
                      have u1 := run_und hT w'
                      rw [hd] at u1
                      have hb := (bounds_some (P := P) (w' := w') hev (b := true) h1 hm hh hl).1
                      simp [Instr.sliceAt, Instr.slice, u1, hp, hb, run_sizeOf hE w']
                    split at h
                    · rename_i hhm
                      injection h with h
                      subst h
                      exact ⟨_, ⟨hpart, (if mq = lq then A else A.map (·.add (lq * te.size))), by rw [hlen, hhm]⟩, hrun⟩
                    · injection h with h
                      subst h
                      exact ⟨_, hpart, hrun⟩
        · cases h
      · rename_i id off len hes
        rw [hes] at hx
        split at h
        · rename_i T' n es hH
          split at h
          · rename_i hn
            unfold sliceRef at h
            split at h
            · cases h
            · rename_i hmx
              have hmx' : mx = none := by cases mx <;> simp_all
              subst hmx'
              have hnn := (ok.hold _ _ hH).1
              have key : ∃ A cap, ρ x = .slice A len cap ∧ len ≤ cap ∧ ∀ l h, l ≤ h → h ≤ len → RV E w (.ref id (off + l) (h - l)) (.slice (if cap = l then A else A.map (·.add (l * te.size))) (h - l) (cap - l)) := by
                rcases hx with ⟨h1, h2, h3, h4⟩ | ⟨h1, h2, a, h4, h5⟩
                · refine ⟨none, 0, by rw [h4, h3], by omega, fun l h hl hh => .inl ⟨h1, by omega, by omega, ?_⟩⟩
                  have : l = 0 := by omega
                  subst this
                  have : h = 0 := by omega
                  subst this
                  simp
                · refine ⟨_, _, h4, by omega, fun l h hl hh => .inr ⟨h1, by omega, ?_⟩⟩
                  by_cases hc : (E.loc id).cap - off = l
                  · refine ⟨a, by rw [if_pos hc]; congr 1; omega, fun hlt => ?_⟩
                    have hl0 : l = 0 := by omega
                    have ho0 : off = 0 := by omega
                    subst hl0; subst ho0
                    exact h5 (.inl rfl)
                  · refine ⟨a + l * te.size, ?_, fun hlt => ?_⟩
                    · rw [if_neg hc]
                      simp only [Option.map_some, add_addr]
                      congr 1; omega
                    · by_cases ho : off < (E.loc id).cap
                      · rw [h5 (.inr ho), hnn, hn, Nat.add_mul, Nat.add_assoc]
                      · have ho0 : off = 0 := by omega
                        subst ho0
                        rw [h5 (.inl rfl), hnn, hn, Nat.add_mul, Nat.add_assoc]
              obtain ⟨A, cap, hp, hlc, hk⟩ := key
              cases hh : bnd (hi.map S.ev) len len with
              | none => simp [hh] at h
              | some hq =>
                cases hl : bnd (lo.map S.ev) 0 hq with
                | none => simp [hh, hl] at h
                | some lq =>
                  simp only [hh, hl, Option.bind_some, Option.some.injEq] at h
                  subst h
                  obtain ⟨_, hb1, hb2⟩ := bounds_none (P := P) (w' := w) hev (b := true) hlc hh hl
                  refine ⟨_, hk lq hq hb1 hb2, fun w' => ?_⟩
                  have u1 := run_und hT w'
                  rw [hd] at u1
                  have hb := (bounds_none (P := P) (w' := w') hev (b := true) hlc hh hl).1
                  simp [Instr.sliceAt, Instr.slice, u1, hp, hb, run_sizeOf hE w']
          · cases h
        · cases h
      · cases h
  · cases h

set_option maxHeartbeats 1000000 in
theorem pureV_sound {P : Program} {S : St} {o : Op} {v : V} (h : pureV (tyOf P) S o = some v) : Pure P o S v := by
  intro E w ρ oo hoo ok hev
  unfold execOp
  rw [hoo]
  unfold pureV at h
  split at h
  all_goals dsimp only
  · injection h with h; subst h
    exact ⟨_, hev _, fun w' _ => rfl⟩
  · injection h with h; subst h
    exact ⟨_, hev _, fun w' _ => rfl⟩
  · -- pick
    rename_i c a b
    split at h
    · rename_i t ht
      injection h with h; subst h
      have hc := hev c
      rw [ht] at hc
      have hc := RD_lit hc
      refine ⟨if t then ρ a else ρ b, ?_, fun w' _ => ?_⟩
      · cases t
        · exact hev b
        · exact hev a
      · simp [hc, asBool]
    · cases h
  · -- load
    rename_i T a
    cases hT : tyOf P T with
    | none => simp [hT] at h
    | some ti =>
      cases hc : cellsAt S.hp (S.ev a) with
      | none => simp [hT, hc] at h
      | some cs =>
        simp only [hT, hc, Option.bind_some] at h
        obtain ⟨b, o, vs, hp, h1, h2, h3, h4⟩ := cellsAt_sound ok (hev a) hc
        obtain ⟨x, hx, hrun⟩ := run_loadAt (P := P) hT h1 h2 h3 h
        refine ⟨x, hx, fun w' hg => ?_⟩
        simp only [hp, Sem.run_bind, hrun w' (rangeAt_block h2 (hg.block _ h4)), Result.andThen_ok, Sem.run_pure]
  · -- binOp
    rename_i op T x y yt
    have hx := hev x
    have hy := hev y
    split at h
    · rename_i a b ha hb
      rw [ha] at hx; rw [hb] at hy
      have hx := RD_lit hx
      have hy := RD_lit hy
      cases hT : tyOf P T with
      | none => simp [hT] at h
      | some ti =>
        simp only [hT, Option.bind_some] at h
        split at h
        · rename_i hd
          injection h with h; subst h
          refine ⟨_, ⟨rfl, rfl⟩, fun w' _ => ?_⟩
          have := (eqBool_sound (P := P) (w' := w') hT hd a b x y).1
          rw [hx, hy]
          simp only [Sem.run_bind] at this ⊢
          simp [this]
        · rename_i hd
          injection h with h; subst h
          refine ⟨_, ⟨rfl, rfl⟩, fun w' _ => ?_⟩
          have := (eqBool_sound (P := P) (w' := w') hT hd a b x y).2
          rw [hx, hy]
          simp only [Sem.run_bind] at this ⊢
          simp [this]
        · cases h
    · rename_i a b _ ha hb
      have hx0 := hx
      rw [ha] at hx hx0; rw [hb] at hy
      have hx := RD_lit hx
      have hy := RD_lit hy
      split at h
      · rename_i r hr
        injection h with h; subst h
        refine ⟨r, ⟨rfl, (litOp_sound (P := P) (T := T) (xo := x) (yo := y) hr w).2⟩, fun w' _ => ?_⟩
        have := (litOp_sound (P := P) (T := T) (xo := x) (yo := y) hr w').1
        rw [hx, hy]
        simp only [Sem.run_bind] at this ⊢
        simp [this]
      · cases hT : tyOf P T with
        | none => simp [hT] at h
        | some ti =>
          simp only [hT, Option.bind_some] at h
          split at h
          · cases hq : eqNil ti.desc (.d (.lit a)) b with
            | none => simp [hq] at h
            | some r =>
              simp only [hq, Option.map_some, Option.some.injEq] at h
              subst h
              refine ⟨_, ⟨rfl, rfl⟩, fun w' _ => ?_⟩
              have := (eqNil_sound (P := P) (w' := w') hT hx0 hq x y).1
              rw [hy]
              simp only [Sem.run_bind] at this ⊢
              simp [this]
          · cases hq : eqNil ti.desc (.d (.lit a)) b with
            | none => simp [hq] at h
            | some r =>
              simp only [hq, Option.map_some, Option.some.injEq] at h
              subst h
              refine ⟨_, ⟨rfl, rfl⟩, fun w' _ => ?_⟩
              have := (eqNil_sound (P := P) (w' := w') hT hx0 hq x y).2
              rw [hy]
              simp only [Sem.run_bind] at this ⊢
              simp [this]
          · cases h
    · rename_i b hb _ _
      rw [hb] at hy
      have hy := RD_lit hy
      cases hT : tyOf P T with
      | none => simp [hT] at h
      | some ti =>
        simp only [hT, Option.bind_some] at h
        split at h
        · cases hq : eqNil ti.desc (S.ev x) b with
          | none => simp [hq] at h
          | some r =>
            simp only [hq, Option.map_some, Option.some.injEq] at h
            subst h
            refine ⟨_, ⟨rfl, rfl⟩, fun w' _ => ?_⟩
            have := (eqNil_sound (P := P) (w' := w') hT hx hq x y).1
            rw [hy]
            simp only [Sem.run_bind] at this ⊢
            simp [this]
        · cases hq : eqNil ti.desc (S.ev x) b with
          | none => simp [hq] at h
          | some r =>
            simp only [hq, Option.map_some, Option.some.injEq] at h
            subst h
            refine ⟨_, ⟨rfl, rfl⟩, fun w' _ => ?_⟩
            have := (eqNil_sound (P := P) (w' := w') hT hx hq x y).2
            rw [hy]
            simp only [Sem.run_bind] at this ⊢
            simp [this]
        · cases h
    · cases h
  · -- unOp
    rename_i op yt x
    have hx := hev x
    split at h
    · rename_i b hb
      rw [hb] at hx
      have hx := RD_lit hx
      injection h with h; subst h
      exact ⟨_, ⟨rfl, rfl⟩, fun w' _ => by simp [hx, Op.unary]⟩
    · rename_i k n hb
      rw [hb] at hx
      have hx := RD_lit hx
      injection h with h; subst h
      exact ⟨_, ⟨rfl, rfl⟩, fun w' _ => by simp [hx, Op.unary, Op.intArith]⟩
    · cases h
  · -- convert
    rename_i src dst x
    have hx := hev x
    cases hs : tyOf P src with
    | none => simp [hs] at h
    | some ts =>
      cases hd : tyOf P dst with
      | none => simp [hs, hd] at h
      | some td =>
        simp only [hs, hd, Option.bind_some] at h
        split at h
        · rename_i k1 k k2 n h1 h2 h3
          rw [h3] at hx
          have hx := RD_lit hx
          injection h with h; subst h
          refine ⟨_, ⟨rfl, rfl⟩, fun w' _ => ?_⟩
          have u1 := run_und hs w'
          have u2 := run_und hd w'
          rw [h1] at u1; rw [h2] at u2
          simp [hx, convert, u1, u2, Conv.intToInt]
        · rename_i s h1 h2 h3
          rw [h3] at hx
          have hx := RD_lit hx
          injection h with h; subst h
          refine ⟨_, ⟨rfl, rfl⟩, fun w' _ => ?_⟩
          have u1 := run_und hs w'
          have u2 := run_und hd w'
          rw [h1] at u1; rw [h2] at u2
          simp [hx, convert, u1, u2]
        · cases h
  · -- fieldAddr
    rename_i T x f
    cases hT : tyOf P T with
    | none => simp [hT] at h
    | some ti =>
      simp only [hT, Option.bind_some] at h
      split at h
      · rename_i fs hd
        split at h
        · rename_i fd hf
          cases hF : tyOf P fd.type with
          | none => simp [hF] at h
          | some tf =>
            simp only [hF, Option.bind_some] at h
            split at h
            · cases h
            · rename_i hz
              obtain ⟨b, o, hp, hr⟩ := offP_sound (hev x) h
              refine ⟨_, hr, fun w' _ => ?_⟩
              have u1 := run_und hT w'
              rw [hd] at u1
              simp [hp, Instr.fieldAt, u1, hf, Instr.sureAddr, fieldPlace, run_sizeOf hF w', hz, add_addr]
        · cases h
      · cases h
  · -- field
    rename_i T x f
    cases hT : tyOf P T with
    | none => simp [hT] at h
    | some ti =>
      simp only [hT, Option.bind_some] at h
      split at h
      · rename_i fs hd
        split at h
        · rename_i fd cs hf hx
          have hv := hev x
          rw [hx] at hv
          obtain ⟨vs, hp, hc, hvs⟩ := hv
          cases hF : tyOf P fd.type with
          | none => simp [hF] at h
          | some tf =>
            simp only [hF, Option.bind_some] at h
            obtain ⟨u, hu, hrun⟩ := run_part (P := P) (w' := w) hF hvs hc h
            refine ⟨u, hu, fun w' _ => ?_⟩
            have u1 := run_und hT w'
            rw [hd] at u1
            simp [hp, Instr.field, u1, hf, asAgg, hrun w']
        · cases h
      · cases h
  · -- indexAddr
    rename_i T x i
    have hi := hev i
    cases hT : tyOf P T with
    | none => simp [hT] at h
    | some ti =>
      simp only [hT, Option.bind_some] at h
      split at h
      · rename_i e k n hd hin
        rw [hin] at hi
        have hi := RD_lit hi
        cases hE : tyOf P e with
        | none => simp [hE] at h
        | some te =>
          simp only [hE, Option.bind_some] at h
          obtain ⟨b, o, len, cap, hp, h0, h1, hr⟩ := idxS_sound ok (hev x) h
          refine ⟨_, hr, fun w' _ => ?_⟩
          have u1 := run_und hT w'
          rw [hd] at u1
          simp [hp, hi, Instr.indexAt, asIntOf, u1, h0, h1, run_sizeOf hE w', add_addr]
      · rename_i len e k n hd hin
        rw [hin] at hi
        have hi := RD_lit hi
        cases hE : tyOf P e with
        | none => simp [hE] at h
        | some te =>
          simp only [hE, Option.bind_some] at h
          split at h
          · rename_i hb
            obtain ⟨b, o, hp, hr⟩ := offP_sound (hev x) h
            refine ⟨_, hr, fun w' _ => ?_⟩
            have u1 := run_und hT w'
            rw [hd] at u1
            simp [hp, hi, Instr.indexAt, asIntOf, Instr.sureAddr, u1, hb, run_sizeOf hE w', add_addr]
          · cases h
      · cases h
  · -- index
    rename_i T x i
    have hi := hev i
    have hx := hev x
    cases hT : tyOf P T with
    | none => simp [hT] at h
    | some ti =>
      simp only [hT, Option.bind_some] at h
      split at h
      · rename_i s k n hd hs hin
        rw [hin] at hi; rw [hs] at hx
        have hi := RD_lit hi
        have hx := RD_lit hx
        split at h
        · rename_i h0
          split at h
          · rename_i b hb
            injection h with h; subst h
            refine ⟨_, ⟨rfl, rfl⟩, fun w' _ => ?_⟩
            have u1 := run_und hT w'
            rw [hd] at u1
            simp [hx, hi, Instr.index, asIntOf, u1, h0, hb]
          · cases h
        · cases h
      · rename_i len e cs k n hd hs hin
        rw [hin] at hi; rw [hs] at hx
        have hi := RD_lit hi
        obtain ⟨vs, hp, hc, hvs⟩ := hx
        cases hE : tyOf P e with
        | none => simp [hE] at h
        | some te =>
          simp only [hE, Option.bind_some] at h
          split at h
          · rename_i hb
            obtain ⟨u, hu, hrun⟩ := run_part (P := P) (w' := w) hE hvs hc h
            refine ⟨u, hu, fun w' _ => ?_⟩
            have u1 := run_und hT w'
            rw [hd] at u1
            simp [hp, hi, Instr.index, asIntOf, u1, hb, run_sizeOf hE w', hrun w']
          · cases h
      · cases h
  · -- extract
    rename_i x i
    have hx := hev x
    split at h
    · rename_i cs hc
      rw [hc] at hx
      obtain ⟨vs, hp, hvs⟩ := hx
      obtain ⟨u, hu, hru⟩ := RVs_get hvs h
      exact ⟨u, hru, fun w' _ => by simp [hp, Instr.extract, hu]⟩
    · cases h
  · -- slice
    rename_i T x lo hi mx
    cases hT : tyOf P T with
    | none => simp [hT] at h
    | some ti =>
      simp only [hT, Option.bind_some] at h
      obtain ⟨u, hu, hrun⟩ := sliceAt_sound ok hev hT h
      exact ⟨u, hu, fun w' _ => by simp [hrun w']⟩
  · -- build
    rename_i T parts
    cases hT : tyOf P T with
    | none => simp [hT] at h
    | some ti =>
      simp only [hT, Option.bind_some] at h
      obtain ⟨hu, it, hit, hs, hb, hz⟩ := tyOf_spec hT
      have hm : (parts.map fun x => match x with | (i, x) => (i, ρ x)).toList = parts.toList.map fun p => (p.1, ρ p.2) := by simp
      unfold buildV at h
      split at h
      · rename_i fs hd
        cases hpl : placesOf (tyOf P) fs.toList with
        | none => simp [hpl] at h
        | some places =>
          simp only [hpl, Option.bind_some] at h
          split at h
          · rename_i hpz
            cases hf : fillV (fun x => places[x]?) (ti.zero.cells.toList.map fun c => V.d (.lit c)) (parts.toList.map fun p => (p.1, S.ev p.2)) with
            | none => simp [hf] at h
            | some r =>
              simp only [hf, Option.map_some, Option.some.injEq] at h
              subst h
              obtain ⟨c', h1, h2, h3⟩ := fillV_sound hev parts.toList _ ti.zero.cells r (RVs_lits hpz) (fun x hx => by obtain ⟨y, _, rfl⟩ := List.mem_map.1 hx; rfl) hf
              refine ⟨.agg c', ⟨c'.toList, by simp, h3, h2⟩, fun w' _ => ?_⟩
              have hbt : P.built T (parts.map fun x => match x with | (i, x) => (i, ρ x)).toList = some c' := by
                unfold Program.built
                rw [hit, hu, hd]
                simp only [hz, places_info hpl]
                rw [hm]
                simpa using h1
              simp only [Sem.run_bind, run_build w' T _ _ hbt, Result.andThen_ok, Sem.run_pure]
          · cases h
      · rename_i n e hd
        cases hE : tyOf P e with
        | none => simp [hE] at h
        | some te =>
          simp only [hE, Option.bind_some] at h
          obtain ⟨_, ie, hie, hes, _⟩ := tyOf_spec hE
          split at h
          · rename_i hpz
            cases hf : fillV (fun i => some (i * te.size, te.size)) (ti.zero.cells.toList.map fun c => V.d (.lit c)) (parts.toList.map fun p => (p.1, S.ev p.2)) with
            | none => simp [hf] at h
            | some r =>
              simp only [hf, Option.map_some, Option.some.injEq] at h
              subst h
              obtain ⟨c', h1, h2, h3⟩ := fillV_sound hev parts.toList _ ti.zero.cells r (RVs_lits hpz) (fun x hx => by obtain ⟨y, _, rfl⟩ := List.mem_map.1 hx; rfl) hf
              refine ⟨.agg c', ⟨c'.toList, by simp, h3, h2⟩, fun w' _ => ?_⟩
              have hbt : P.built T (parts.map fun x => match x with | (i, x) => (i, ρ x)).toList = some c' := by
                unfold Program.built
                rw [hit, hu, hd]
                simp only [hz, hie]
                rw [hm, hes]
                exact h1
              simp only [Sem.run_bind, run_build w' T _ _ hbt, Result.andThen_ok, Sem.run_pure]
          · cases h
      · cases h
  · -- makeFunc
    rename_i f first caps
    split at h
    · rename_i hf
      injection h with h; subst h
      have hf' : first = #[] := by simpa using hf
      subst hf'
      have key : ∀ l : List Operand, RVs E w (l.map S.ev) (l.map ρ) := by
        intro l
        induction l with
        | nil => exact rfl
        | cons x l ih => exact ⟨_, _, rfl, hev x, ih⟩
      refine ⟨.func f #[] (caps.map ρ), ⟨caps.toList.map ρ, by rw [← Array.toList_map], key _⟩, fun w' _ => by simp [Instr.makeFunc]⟩
    · cases h
  · -- makeInterface
    rename_i T x
    have hx := hev x
    cases hT : tyOf P T with
    | none => simp [hT] at h
    | some ti =>
      simp only [hT, Option.bind_some] at h
      split at h
      · cases h
      · rename_i d hd hni
        injection h with h; subst h
        rw [hd] at hx
        refine ⟨.iface T (ρ x), ⟨_, rfl, hx⟩, fun w' _ => ?_⟩
        have u1 := run_und hT w'
        cases hdd : ti.desc <;> first | (exact absurd hdd (hni _)) | (rw [hdd] at u1; simp [Instr.makeInterface, u1])
      · cases h
  · -- nilCheck
    rename_i x
    have hx := hev x
    split at h
    · rename_i id i off hd
      injection h with h; subst h
      rw [hd] at hx
      obtain ⟨hn, hp⟩ := hx
      exact ⟨_, ⟨hn, rfl⟩, fun w' _ => by simp [hp]⟩
    · rename_i cs hd
      injection h with h; subst h
      rw [hd] at hx
      obtain ⟨b, o, vs, hp, hr⟩ := hx
      exact ⟨_, ⟨b, o, vs, rfl, hr⟩, fun w' _ => by simp [hp]⟩
    · rename_i f caps hd
      injection h with h; subst h
      rw [hd] at hx
      obtain ⟨vs, hp, hr⟩ := hx
      exact ⟨_, ⟨vs, rfl, hr⟩, fun w' _ => by simp [hp]⟩
    · cases h
  · -- call
    rename_i c
    have hmap : ∀ l : List Operand, RVs E w (l.map S.ev) (l.map ρ) := by
      intro l
      induction l with
      | nil => exact rfl
      | cons x l ih => exact ⟨_, _, rfl, hev x, ih⟩
    have hmin : ∀ mx (v : V), minL mx (c.args.toList.map S.ev) = some v → ∃ u, RV E w v u ∧ ∀ w', ((if mx then Builtin.max_ else Builtin.min_) c.argTypes oo.type (c.args.map ρ)).run P w' = .ok u w' := by
      intro mx v h
      have hm := hmap c.args.toList
      unfold minL at h
      split at h
      · rename_i k x r hr
        rw [hr] at hm
        obtain ⟨u0, us, h1, h2, h3⟩ := hm
        have h2 := RD_lit h2
        subst h2
        obtain ⟨u, hu, hrun⟩ := run_min (P := P) mx r us k x v h3 h
        refine ⟨u, hu, fun w' => ?_⟩
        have e : (c.args.map ρ).toList = .int k x :: us := by rw [Array.toList_map, h1]
        have := hrun w'
        cases mx <;> simp only [Builtin.max_, Builtin.min_, e, if_true, if_false, Bool.false_eq_true] at this ⊢ <;> exact this
      · cases h
    split at h
    · rename_i hcal
      split at h
      · rename_i x T hargs htys
        have ha : c.args = #[x] := Array.ext' hargs
        have hty : c.argTypes = #[T] := Array.ext' htys
        have hx := hev x
        cases hT : tyOf P T with
        | none => simp [hT] at h
        | some ti =>
          simp only [hT, Option.bind_some] at h
          split at h
          · rename_i e hd
            cases hl : lenV (S.ev x) with
            | none => simp [hl] at h
            | some n =>
              simp only [hl, Option.map_some, Option.some.injEq] at h
              subst h
              obtain ⟨A, cp, hp⟩ := lenV_sound hx hl
              refine ⟨_, ⟨rfl, rfl⟩, fun w' _ => ?_⟩
              have u1 := run_und hT w'
              rw [hd] at u1
              simp [resolve, hcal, ha, hty, invoke, builtin, Builtin.len_, u1, hp, goInt]
          · rename_i hd
            split at h
            · rename_i s hs
              rw [hs] at hx
              have hx := RD_lit hx
              injection h with h; subst h
              refine ⟨_, ⟨rfl, rfl⟩, fun w' _ => ?_⟩
              have u1 := run_und hT w'
              rw [hd] at u1
              simp [resolve, hcal, ha, hty, invoke, builtin, Builtin.len_, u1, hx, goInt]
            · cases h
          · rename_i n e hd
            injection h with h; subst h
            refine ⟨_, ⟨rfl, rfl⟩, fun w' _ => ?_⟩
            have u1 := run_und hT w'
            rw [hd] at u1
            simp [resolve, hcal, ha, hty, invoke, builtin, Builtin.len_, u1, goInt]
          · cases h
      · cases h
    · rename_i hcal
      obtain ⟨u, hu, hrun⟩ := hmin false v h
      refine ⟨u, hu, fun w' _ => ?_⟩
      have := hrun w'
      simp only [Bool.false_eq_true, if_false] at this
      simp [resolve, hcal, invoke, builtin, this]
    · rename_i hcal
      obtain ⟨u, hu, hrun⟩ := hmin true v h
      refine ⟨u, hu, fun w' _ => ?_⟩
      have := hrun w'
      simp only [if_true] at this
      simp [resolve, hcal, invoke, builtin, this]
    · cases h
  · cases h
end Go.Ab
