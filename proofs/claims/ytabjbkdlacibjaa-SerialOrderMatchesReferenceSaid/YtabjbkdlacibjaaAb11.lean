/- The abstract machine: all operations that change memory, evaluated. -/
import Derived.Test.YtabjbkdlacibjaaAb10
namespace Go.Ab
open Go.RowKit

/-- ds in groups of n -/
def chunk (n : Nat) : Nat → List D → List (List D)
  | 0, _ => []
  | k + 1, l => l.take n :: chunk n k (l.drop n)

theorem chunk_length (n : Nat) : ∀ (k : Nat) (l : List D), (chunk n k l).length = k
  | 0, _ => rfl
  | k + 1, l => by simp [chunk, chunk_length n k]
theorem chunk_each (n : Nat) : ∀ (k : Nat) (l : List D), k * n ≤ l.length → ∀ e ∈ chunk n k l, e.length = n
  | 0, _, _, e, he => by cases he
  | k + 1, l, h, e, he => by
    rw [Nat.add_mul, Nat.one_mul] at h
    rcases List.mem_cons.1 he with rfl | he
    · rw [List.length_take]; omega
    · exact chunk_each n k (l.drop n) (by rw [List.length_drop]; omega) e he
theorem RDs_take {w : World} {Z : Nat → Prop} : ∀ {cs : List D} {vs : List Value} (k : Nat), RDs w Z cs vs → RDs w Z (cs.take k) (vs.take k)
  | [], _, k, h => by
    have : _ = [] := h
    subst this
    simp [RDs]
  | _ :: _, _, 0, h => by simp [RDs]
  | _ :: _, _, k + 1, ⟨v, r, h, h1, h2⟩ => by subst h; exact ⟨v, r.take k, rfl, h1, RDs_take k h2⟩
theorem RDe_chunk {w : World} {Z : Nat → Prop} (n : Nat) : ∀ (k : Nat) {ds : List D} {vs : List Value}, RDs w Z ds vs → ds.length = k * n → RDe w Z (chunk n k ds) vs
  | 0, ds, vs, h, hl => by
    have : ds = [] := List.eq_nil_of_length_eq_zero (by omega)
    subst this
    exact h
  | k + 1, ds, vs, h, hl => by
    rw [Nat.add_mul, Nat.one_mul] at hl
    exact ⟨vs.take n, vs.drop n, (List.take_append_drop n vs).symm, RDs_take n h, RDe_chunk n k (RDs_drop n h) (by rw [List.length_drop]; omega)⟩

/-- the cells of n zero values -/
def zeroL (zc : List V) : Nat → List V
  | 0 => []
  | n + 1 => zc ++ zeroL zc n
theorem zeroL_length (zc : List V) : ∀ n, (zeroL zc n).length = n * zc.length
  | 0 => by simp [zeroL]
  | n + 1 => by rw [zeroL, List.length_append, zeroL_length zc n, Nat.add_mul]; omega
theorem RVs_zero {E : Env} {w : World} {zc : List V} {z : Array Value} (h : RVs E w zc z.toList) : ∀ n, RVs E w (zeroL zc n) ((Array.range (n * z.size)).map (z[· % z.size]!)).toList
  | 0 => by simp [zeroL, RVs]
  | n + 1 => by
    have e : ((Array.range ((n + 1) * z.size)).map (z[· % z.size]!)).toList = z.toList ++ ((Array.range (n * z.size)).map (z[· % z.size]!)).toList := by
      apply List.ext_getElem?
      intro i
      simp only [Array.toList_map, Array.toList_range, List.getElem?_map, List.getElem?_append, Array.length_toList]
      by_cases hi : i < z.size
      · rw [if_pos hi, List.getElem?_range (by rw [Nat.add_mul]; omega)]
        simp [Nat.mod_eq_of_lt hi, hi]
      · rw [if_neg hi]
        by_cases h2 : i < (n + 1) * z.size
        · rw [List.getElem?_range h2, List.getElem?_range (by rw [Nat.add_mul] at h2; omega)]
          have hz : 0 < z.size := by
            rcases Nat.eq_zero_or_pos z.size with h0 | h0
            · rw [h0] at h2; omega
            · exact h0
          simp only [Option.map_some]
          congr 2
          rw [Nat.mod_eq_sub_mod (by omega)]
        · rw [List.getElem?_eq_none (by simpa using Nat.le_of_not_lt h2), List.getElem?_eq_none (by rw [Nat.add_mul] at h2; simp; omega)]
    rw [e]
    exact RVs_append h (RVs_zero h n)

def litL (z : Value) : List V := z.cells.toList.map fun c => V.d (.lit c)
theorem litL_cell {z : Value} : ∀ c ∈ litL z, c.cell = true := fun c hc => by
  obtain ⟨x, _, rfl⟩ := List.mem_map.1 hc; rfl

/-- the elements of a slice literal -/
def bsV (te : TI) (len : Nat) (parts : List (Nat × V)) : Option (List (List D)) :=
  if len * te.size ≤ 16777216 ∧ te.zero.cells.size = te.size ∧ te.zero.cells.toList.all plain = true ∧ 0 < te.size then
    match fillV (fun i => some (i * te.size, te.size)) (zeroL (litL te.zero) len) parts with
    | some r => match toDs r with
      | some ds => if ds.length = len * te.size then some (chunk te.size len ds) else none
      | none => none
    | none => none
  else none

theorem run_buildSlice {P : Program} {T e : TypeId} {ti te : TI} (hT : tyOf P T = some ti) (hd : ti.desc = .slice e) (he : tyOf P e = some te) {S : St} {E : Env} {w : World} {ρ : Operand → Value} (hev : ∀ x, RV E w (S.ev x) (ρ x)) {len : Nat} {parts : Array (Nat × Operand)} {es : List (List D)}
    (h : bsV te len (parts.toList.map fun p => (p.1, S.ev p.2)) = some es) : ∃ cells : Array Value, (Instr.buildSlice T len (parts.map fun (i, x) => (i, ρ x))).run P w = .ok (.slice (some ⟨w.heap.size, 0, none⟩) len len) (w.alloc (.cells cells e)) ∧
      RDe w E.Z es cells.toList ∧ es.length = len ∧ (∀ x ∈ es, x.length = te.size) ∧ cells.size = len * te.size := by
  unfold bsV at h
  split at h
  · rename_i hc
    obtain ⟨h1, h2, h3, _⟩ := hc
    split at h
    · rename_i r hr
      split at h
      · rename_i ds hds
        split at h
        · rename_i hlen
          injection h with h; subst h
          have hz := RVs_zero (E := E) (w := w) (zc := litL te.zero) (z := te.zero.cells) (RVs_lits h3) len
          rw [h2] at hz
          obtain ⟨c', k1, k2, k3⟩ := fillV_sound hev parts.toList _ _ r hz (fun x hx => by
            have : ∀ n, ∀ x ∈ zeroL (litL te.zero) n, x.cell = true := by
              intro n
              induction n with
              | zero => intro x hx; cases hx
              | succ n ih => intro x hx; rcases List.mem_append.1 hx with hx | hx; exact litL_cell x hx; exact ih x hx
            exact this _ x hx) hr
          have hrd := toDs_sound hds
          rw [hrd] at k2
          have k2 := RVs_d.1 k2
          refine ⟨c', ?_, RDe_chunk _ _ k2 hlen, chunk_length _ _ _, chunk_each _ _ _ (by omega), ?_⟩
          · have u1 := run_und hT w
            rw [hd] at u1
            have hm : (parts.map fun x => match x with | (i, x) => (i, ρ x)).toList = parts.toList.map fun p => (p.1, ρ p.2) := by simp
            have n1 : ¬ 16777216 < len * te.size := by omega
            rw [← hm] at k1
            have hz0 : (zeroValue e).run P w = .ok te.zero w := run_zero he w
            by_cases hn : len * te.size = 0
            · rw [hn] at k1
              have k1' : Instr.fill (fun i => some (i * te.size, te.size)) #[] (parts.map fun x => match x with | (i, x) => (i, ρ x)).toList = some c' := by
                have hr0 : Array.range 0 = #[] := rfl
                simpa [hr0] using k1
              simp only [Instr.buildSlice, Sem.run_bind, u1, Result.andThen_ok, run_sizeOf he w, n1, if_false, hn, if_true, Sem.run_pure, show Array.range 0 = #[] from rfl, Array.map_empty]
              simp only [Array.toList_map] at k1'
              simp [k1', newRow]
            · simp only [Instr.buildSlice, Sem.run_bind, u1, Result.andThen_ok, run_sizeOf he w, n1, if_false, hn, Sem.run_pure, hz0]
              have hzs : te.zero.cells.size = te.size := h2
              rw [hzs]
              simp only [Array.toList_map] at k1
              simp [k1, newRow]
          · have := RDs_length k2
            rw [hlen] at this
            simpa using this
        · cases h
      · cases h
    · cases h
  · cases h

/-- the operations that change memory; 'fz': destinations whose new slices are never written -/
def effV (ty : TypeId → Option TI) (fz : List Nat) (S : St) (o : Oper) : Option St :=
  match o.op, o.dst with
  | .box _ x, some d => if d ∉ S.rts ∧ (cellsV (S.ev x)).all V.cell = true ∧ hasL d (cellsV (S.ev x)) = false then some (((S.kill d).setH d (some (.box (cellsV (S.ev x))))).put (some d) (.ptr d 0 0)) else none
  | .alloc T, some d => match ty T with
    | some ti => if d ∉ S.rts ∧ ti.zero.cells.toList.all plain = true then some (((S.kill d).setH d (some (.box (litL ti.zero)))).put (some d) (.ptr d 0 0)) else none
    | none => none
  | .store T p x, d => match ty T with
    | some ti => match stV S ti.size (S.ev p) (S.ev x) with
      | some S' => some (S'.put d (.tup []))
      | none => none
    | none => none
  | .buildSlice T len parts, some d => match ty T with
    | some ti => match ti.desc with
      | .slice e => match ty e with
        | some te => match bsV te len (parts.toList.map fun p => (p.1, S.ev p.2)) with
          | some es => if fz.contains d then some (S.put (some d) (.d (.sl es))) else
              if d ∉ S.rts ∧ 0 < te.size then some (((S.kill d).setH d (some (.arr e te.size es))).put (some d) (.ref d 0 len)) else none
          | none => none
        | none => none
      | _ => none
    | none => none
  | .makeSlice T l c, some d => match ty T with
    | some ti => match ti.desc, S.ev l, S.ev c with
      | .slice e, .d (.lit (.int _ n)), .d (.lit (.int _ k)) => match ty e with
        | some te => if 0 ≤ n ∧ n ≤ k ∧ k.toNat * te.bytes ≤ Rp.reach ∧ 0 < te.bytes ∧ te.zero.cells.size = te.size ∧ te.zero.cells.toList.all plain = true ∧ d ∉ S.rts ∧ 0 < te.size then
            some (((S.kill d).setH d (some (.arr e te.size (List.replicate n.toNat (te.zero.cells.toList.map .lit))))).put (some d) (.ref d 0 n.toNat)) else none
        | none => none
      | _, _, _ => none
    | none => none
  | .call c, some d => match c.callee with
    | .builtin .append => match c.args.toList, c.argTypes.toList with
      | [s, x], [T, T'] => if T = T' then match ty T with
        | some ti => match ti.desc with
          | .slice e => match ty e with
            | some te => match apV S d e te (S.ev s) (S.ev x) with
              | some (S', r) => some (S'.put (some d) r)
              | none => none
            | none => none
          | _ => none
        | none => none else none
      | _, _ => none
    | _ => none
  | _, _ => none

theorem RDe_reps {w : World} {Z : Nat → Prop} {z : Array Value} (h : z.toList.all plain = true) : ∀ n, RDe w Z (List.replicate n (z.toList.map D.lit)) ((Array.range (n * z.size)).map (z[· % z.size]!)).toList := by
  have one : ∀ l : List Value, l.all plain = true → RDs w Z (l.map D.lit) l := by
    intro l
    induction l with
    | nil => intro _; exact rfl
    | cons x l ih =>
      intro h
      rw [List.all_cons, Bool.and_eq_true] at h
      exact ⟨x, l, rfl, ⟨rfl, h.1⟩, ih h.2⟩
  intro n
  have hz := RVs_zero (E := ⟨fun _ => default, Z⟩) (w := w) (zc := z.toList.map fun c => V.d (.lit c)) (z := z) (RVs_lits h) n
  have e : ∀ n, zeroL (z.toList.map fun c => V.d (.lit c)) n = ((List.replicate n (z.toList.map D.lit)).flatten).map V.d := by
    intro n
    induction n with
    | zero => rfl
    | succ n ih => rw [zeroL, ih, List.replicate_succ, List.flatten_cons, List.map_append]; simp
  rw [e] at hz
  have hz := RVs_d.1 hz
  have fl : ∀ (es : List (List D)) (vs : List Value), RDs w Z es.flatten vs → RDe w Z es vs := by
    intro es
    induction es with
    | nil => intro vs h; exact h
    | cons x es ih =>
      intro vs h
      rw [List.flatten_cons] at h
      refine ⟨vs.take x.length, vs.drop x.length, (List.take_append_drop _ vs).symm, ?_, ih _ ?_⟩
      · have := RDs_take x.length h; rwa [List.take_left] at this
      · have := RDs_drop x.length h; rwa [List.drop_left] at this
  exact fl _ _ hz

theorem Mod.newBox {fx : Fx} {S : St} {E : Env} {a : Act} {w : World} (m : Mod fx S E a w) {d : Nat} (hid : d ∉ S.rts) {cs : List V} {c : Array Value} (T : TypeId) (hc : ∀ x ∈ cs, x.cell = true) (hl : hasL d cs = false) (hv : RVs E w cs c.toList) :
    ∃ E', Mod fx ((S.kill d).setH d (some (.box cs))) E' a (w.alloc (.cells c T)) ∧ RV E' (w.alloc (.cells c T)) (.ptr d 0 0) (.pointer (some ⟨w.heap.size, 0, none⟩)) := by
  have hg := World.grownBy_alloc w (.cells c T) none
  have hk : Keeps E.Z w (w.alloc (.cells c T)) := Keeps.grown m.ok hg fun b hb => by cases hb
  have hb : (w.alloc (.cells c T)).heap[w.heap.size]? = some (.cells c T) := by show (w.heap.push _)[w.heap.size]? = _; simp
  refine ⟨_, m.re (row := none) hid hg (fun b hb => by cases hb) ⟨w.heap.size, 0, 0, 0, false⟩ (blk := .box cs) ⟨by simp [Env.at], hc, c.toList, ?_, ?_, ?_, ?_⟩ (fun _ => .inr (Nat.le_refl _)), by simp [Env.at], by simp [Env.at]⟩
  · exact RVs.keep (E := E.at d _) (w := w) hk (fun _ h => h) rfl _ _ (RVs.upd _ _ hl hv)
  · simp only [Env.at, if_true]
    exact arr_range hb ⟨c.toList.length, List.take_length⟩
  · intro j hj
    simp only [Env.at, if_true, World.frozen?, hb]
    simp
  · simp [Env.at]

theorem Mod.newArr {fx : Fx} {S : St} {E : Env} {a : Act} {w : World} (m : Mod fx S E a w) {d : Nat} (hid : d ∉ S.rts) {es : List (List D)} {c : Array Value} {e n cap : Nat} {flat : List Value} (hn : 0 < n) (hes : ∀ x ∈ es, x.length = n) (hcap : es.length ≤ cap) (hm : cap ≤ maxLen) (hsz : c.size = cap * n) (hv : RDe w E.Z es flat) (hc : c.toList.take (es.length * n) = flat) :
    ∃ E', Mod fx ((S.kill d).setH d (some (.arr e n es))) E' a (w.alloc (.cells c e)) ∧ RV E' (w.alloc (.cells c e)) (.ref d 0 es.length) (.slice (some ⟨w.heap.size, 0, none⟩) es.length cap) := by
  have hg := World.grownBy_alloc w (.cells c e) none
  have hk : Keeps E.Z w (w.alloc (.cells c e)) := Keeps.grown m.ok hg fun b hb => by cases hb
  have hb : (w.alloc (.cells c e)).heap[w.heap.size]? = some (.cells c e) := by show (w.heap.push _)[w.heap.size]? = _; simp
  refine ⟨_, m.re (row := none) hid hg (fun b hb => by cases hb) ⟨w.heap.size, 0, n, cap, false⟩ (blk := .arr e n es)
    ⟨by simp [Env.at], by simp [Env.at], hes, hn, .inr ⟨by simp [Env.at], c, flat, by simpa [Env.at] using hb, by simpa [Env.at] using hcap, by simpa [Env.at] using hm, by simpa [Env.at] using hsz, RDe.keep hk (fun _ h => h) _ _ hv, hc⟩⟩ (fun _ => .inr (Nat.le_refl _)), .inr ⟨by simp [Env.at], by simpa [Env.at] using hcap, 0, by simp [Env.at], fun _ => by simp [Env.at]⟩⟩

theorem effV_sound {P : Program} {fz : List Nat} {S S' : St} {o : Oper} (h : effV (tyOf P) fz S o = some S') {fx : Fx} {a : Act} {w : World} (hm : Models fx S a w) {K : Act → World → Prop} {Q : Exit → Act → World → Prop} (hK : ∀ a' w', Models fx S' a' w' → K a' w') : o.wp P a w K Q := by
  obtain ⟨E, m⟩ := hm
  have hev := m.ev
  unfold Oper.wp execOp
  unfold effV at h
  split at h
  · -- box
    rename_i T x d ho hd
    split at h
    · rename_i hc
      obtain ⟨h1, h2, h3⟩ := hc
      injection h with h; subst h
      obtain ⟨E', m', hr⟩ := m.newBox h1 T (fun c hc => List.all_eq_true.1 h2 c hc) h3 (cellsV_sound (hev x) h2)
      have hrun : (Instr.box T (a.eval x)).run P w = .ok (.pointer (some ⟨w.heap.size, 0, none⟩)) (w.alloc (.cells (a.eval x).cells T)) := by simp [Instr.box, newVar, newRow]
      simp only [ho, Sem.run_bind, hrun, Result.andThen_ok, Sem.run_pure, Oper.upon, hd]
      exact hK _ _ ⟨E', m'.put (some d) hr⟩
    · cases h
  · -- alloc
    rename_i T d ho hd
    split at h
    · rename_i ti hT
      split at h
      · rename_i hc
        obtain ⟨h1, h2⟩ := hc
        injection h with h; subst h
        have hl : ∀ l : List Value, hasL d (l.map fun c => V.d (.lit c)) = false := by
          intro l
          induction l with
          | nil => rfl
          | cons x l ih => simp [hasL, V.has, ih]
        obtain ⟨E', m', hr⟩ := m.newBox (cs := litL ti.zero) (c := ti.zero.cells) h1 T litL_cell (hl _) (RVs_lits h2)
        have hrun : (Instr.alloc T true (.tuple #[])).run P w = .ok (.pointer (some ⟨w.heap.size, 0, none⟩)) (w.alloc (.cells ti.zero.cells T)) := by simp [Instr.alloc, run_zero hT w, newVar, newRow]
        simp only [ho, Sem.run_bind, hrun, Result.andThen_ok, Sem.run_pure, Oper.upon, hd]
        exact hK _ _ ⟨E', m'.put (some d) hr⟩
      · cases h
    · cases h
  · -- store
    rename_i T p x ho
    split at h
    · rename_i ti hT
      split at h
      · rename_i S1 hS
        injection h with h; subst h
        obtain ⟨w', hrun, m'⟩ := stV_sound (P := P) hT m (hev p) (hev x) hS
        simp only [ho, Sem.run_bind, hrun, Result.andThen_ok, Sem.run_pure, Oper.upon]
        exact hK _ _ ⟨E, m'.put _ ⟨[], rfl, rfl⟩⟩
      · cases h
    · cases h
  · -- buildSlice
    rename_i T len parts d ho hd
    split at h
    · rename_i ti hT
      split at h
      · rename_i e hde
        split at h
        · rename_i te he
          split at h
          · rename_i es hes
            obtain ⟨cells, hrun, k1, k2, k3, k4⟩ := run_buildSlice (P := P) hT hde he hev hes
            have hml : len ≤ maxLen := by
              unfold bsV at hes
              split at hes
              · rename_i hc
                have : len * 1 ≤ len * te.size := Nat.mul_le_mul_left _ hc.2.2.2
                have := hc.1
                unfold maxLen; omega
              · cases hes
            split at h
            · injection h with h; subst h
              have m' := m.lay (.cells cells e)
              have hk : Keeps E.Z w (w.alloc (.cells cells e)) := Keeps.grown m.ok (World.grownBy_alloc w (.cells cells e) none) fun b hb => by cases hb
              have hb : (w.alloc (.cells cells e)).heap[w.heap.size]? = some (.cells cells e) := by show (w.heap.push _)[w.heap.size]? = _; simp
              simp only [ho, Sem.run_bind, hrun, Result.andThen_ok, Sem.run_pure, Oper.upon, hd]
              refine hK _ _ ⟨_, m'.put (some d) ⟨some ⟨w.heap.size, 0, none⟩, len, by rw [k2], by omega, hml, (fun h => by cases h), fun _ => ?_⟩⟩
              exact ⟨w.heap.size, 0, te.size, cells.toList, rfl, .inr rfl, k3, RDe.keep hk (fun _ h => .inl h) _ _ k1, arr_range hb ⟨cells.toList.length, List.take_length⟩⟩
            · split at h
              · rename_i hc
                obtain ⟨h1, h2⟩ := hc
                injection h with h; subst h
                obtain ⟨E', m', hr⟩ := m.newArr (d := d) (e := e) (c := cells) (cap := len) h1 h2 k3 (by omega) hml k4 k1 (by rw [k2, ← k4]; exact List.take_of_length_le (by simp))
                rw [k2] at hr
                simp only [ho, Sem.run_bind, hrun, Result.andThen_ok, Sem.run_pure, Oper.upon, hd]
                exact hK _ _ ⟨E', m'.put (some d) hr⟩
              · cases h
          · cases h
        · cases h
      · cases h
    · cases h
  · -- makeSlice
    rename_i T l c d ho hd
    split at h
    · rename_i ti hT
      split at h
      · rename_i e k1 n k2 k hde hl hc
        split at h
        · rename_i te he
          split at h
          · rename_i hcc
            obtain ⟨h0, h1, h2, h3, h4, h5, h6, h7⟩ := hcc
            injection h with h; subst h
            have el := hev l
            have ec := hev c
            rw [hl] at el; rw [hc] at ec
            have el := RD_lit el
            have ec := RD_lit ec
            obtain ⟨_, i0, hi0, hi1, hi2, hi3⟩ := tyOf_spec he
            have htu : P.underlying T = some (.slice e) := by rw [(tyOf_spec hT).1, hde]
            have hkm : k.toNat ≤ Rp.reach := Nat.le_trans (Nat.le_mul_of_pos_right _ h3) h2
            unfold Rp.reach at hkm h2
            have hkk : (k.toNat : Int) = k := Int.toNat_of_nonneg (by omega)
            have hb48 : (i0.bytes : Int) * k ≤ 281474976710656 := by
              rw [hi2, ← hkk, ← Int.natCast_mul, Nat.mul_comm]
              omega
            have hrun := run_make (P := P) w T e i0 te.zero htu hi0 hi3 k1 k2 n k h0 h1 hb48 (by omega)
            have hreps := RDe_reps (w := w) (Z := E.Z) h5
            rw [hi1] at hrun
            obtain ⟨E', m', hr⟩ := m.newArr (d := d) (e := e) (n := te.size) (es := List.replicate n.toNat (te.zero.cells.toList.map D.lit)) (c := madeCells te.zero.cells (k.toNat * te.size)) (cap := k.toNat) h6 h7 (fun x hx => by rw [(List.mem_replicate.1 hx).2]; simp [h4])
              (by simp; omega) (by unfold maxLen; omega) (size_madeCells _ _) (hreps n.toNat) (by
                rw [List.length_replicate]
                unfold madeCells
                rw [h4, Array.toList_map, Array.toList_map, Array.toList_range, Array.toList_range, ← List.map_take]
                rw [List.take_range, Nat.min_eq_left (Nat.mul_le_mul_right _ (by omega))])
            simp only [List.length_replicate] at hr
            simp only [ho, el, ec, Sem.run_bind, hrun, Result.andThen_ok, Sem.run_pure, Oper.upon, hd]
            exact hK _ _ ⟨E', m'.put (some d) hr⟩
          · cases h
        · cases h
      · cases h
    · cases h
  · -- call
    rename_i c d ho hd
    split at h
    · rename_i hcal
      split at h
      · rename_i s x T T' hargs htys
        split at h
        · rename_i hTT
          subst hTT
          split at h
          · rename_i ti hT
            split at h
            · rename_i e hde
              split at h
              · rename_i te he
                split at h
                · rename_i S1 r hap
                  injection h with h; subst h
                  have ha : c.args = #[s, x] := Array.ext' hargs
                  have hty : c.argTypes = #[T, T] := Array.ext' htys
                  obtain ⟨u, w', E', hrun, m', hr⟩ := apV_sound (P := P) (ty := o.type) hT hde he m (hev s) (hev x) hap
                  simp only [ho, resolve, hcal, ha, hty, invoke, builtin, Sem.run_bind, Sem.run_pure, Result.andThen_ok, List.map_toArray, List.map_cons, List.map_nil, hrun, Oper.upon, hd]
                  exact hK _ _ ⟨E', m'.put (some d) hr⟩
                · cases h
              · cases h
            · cases h
          · cases h
        · cases h
      · cases h
    · cases h
  · cases h

theorem Chain.eff {P : Program} {ops : Array Oper} {o : Oper} {l : List Oper} {S S' : St} {Q : St → Prop} (fz : List Nat) (hw : wantedV ops S o = some true) (he : effV (tyOf P) fz S o = some S') (h : Chain false P ops l S' Q) : Chain false P ops (o :: l) S Q := by
  intro fx a w Q' hm hq
  have hw' := wantedV_sound hm.choose_spec hw
  unfold wpList
  rw [if_pos hw']
  exact .inl (effV_sound he hm fun a' w' hm' => h fx a' w' Q' hm' hq)

/-- n operations at once, of both kinds -/
def runM (ty : TypeId → Option TI) (fz : List Nat) (ops : Array Oper) : Nat → List Oper → St → Option (List Oper × St)
  | 0, l, S => some (l, S)
  | n + 1, o :: l, S => match wantedV ops S o with
    | some true => match pureV ty S o.op with
      | some v => runM ty fz ops n l (S.put o.dst v)
      | none => match effV ty fz S o with
        | some S' => runM ty fz ops n l S'
        | none => none
    | some false => runM ty fz ops n l (S.put o.dst (.tup []))
    | none => none
  | _ + 1, [], _ => none

theorem Chain.runM {P : Program} {ops : Array Oper} {Q : St → Prop} (fz : List Nat) : ∀ (n : Nat) {l l' : List Oper} {S S' : St}, runM (tyOf P) fz ops n l S = some (l', S') → Chain false P ops l' S' Q → Chain false P ops l S Q
  | 0, l, l', S, S', h, hc => by
    simp only [Ab.runM, Option.some.injEq, Prod.mk.injEq] at h
    obtain ⟨rfl, rfl⟩ := h
    exact hc
  | n + 1, [], l', S, S', h, hc => by simp [Ab.runM] at h
  | n + 1, o :: l, l', S, S', h, hc => by
    simp only [Ab.runM] at h
    split at h
    · rename_i hw
      split at h
      · rename_i v hv
        exact .pure hw hv (Chain.runM fz n h hc)
      · split at h
        · rename_i S1 hS
          exact .eff fz hw hS (Chain.runM fz n h hc)
        · cases h
    · rename_i hw
      exact .skip hw (Chain.runM fz n h hc)
    · cases h
end Go.Ab
