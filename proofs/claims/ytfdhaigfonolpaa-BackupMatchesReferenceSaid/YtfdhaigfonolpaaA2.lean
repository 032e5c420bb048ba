/- The abstract machine: all operations that change memory, evaluated. The abstract machine: calls. The abstract machine: calls in regions that draw; states weakened; tables. The abstract machine: what 'simp' evaluates. The abstract machine: how arguments read, how a law is lifted; loops, ends. The abstract machine: maps that a call has made. The abstract machine: loops with an invariant; how the base types read. The abstract machine: calls that change their caller's blocks. The abstract machine: what a call that changes its caller's blocks leaves. The abstract machine: the rule for calls that change their caller's blocks. The abstract machine: names changed, rows cut short; the ends of functions that change what they are lent. The abstract machine: appends within a row's known room; clearing a part of a row. The abstract machine: clearing a part of an own row. The abstract machine: slices that reach past their length. The abstract machine: == and != of structs and arrays. The abstract machine: drawn regions with effects at their end. The abstract machine: an append of nothing. Functional programs out of code: iteration, joins, ends; the rules that carry a code's run over to its functional program. More for functional programs: nil slices as data, last pieces, cells of typed data. The abstract machine: regions that draw their order, with effects: a state for each set of operations that have come up. -/
import Derived.Test.YtfdhaigfonolpaaA1
import Derived.ArgAppend
import Derived.Laws.StructEq
import Derived.StillTail
import Derived.Orders
section
namespace Go.Ab
open Go.RowKit
def chunk (n : Nat) : Nat → List D → List (List D)
 | 0, _ => []
 | k + 1, l => l.take n :: chunk n k (l.drop n)
theorem chunk_length (n : Nat) : ∀ (k : Nat) (l : List D), (chunk n k l).length = k
 | 0, _ => rfl
 | k + 1, l => by simp [chunk, chunk_length n k]
theorem chunk_each (n : Nat) : ∀ (k : Nat) (l : List D), k * n ≤ l.length → ∀ e ∈ chunk n k l, e.length = n
 | 0, _, _, e, he => by cases he
 | k + 1, l, h, e, he => by
  rw [Nat.add_mul, Nat.one_mul] at h
  rcases List.mem_cons.1 he with rfl | he
  ·rw [List.length_take]; omega
  ·exact chunk_each n k (l.drop n) (by rw [List.length_drop]; omega) e he
theorem RDs_take {w : World} {Z : Nat → Prop} : ∀ {cs : List D} {vs : List Value} (k : Nat), RDs w Z cs vs → RDs w Z (cs.take k) (vs.take k)
 | [], _, k, h => by
  have : _ = [] := h
  subst this
  simp [RDs]
 | _ :: _, _, 0, h => by simp [RDs]
 | _ :: _, _, k + 1, ⟨v, r, h, h1, h2⟩ => by subst h; exact ⟨v, r.take k, rfl, h1, RDs_take k h2⟩
theorem RDe_chunk {w : World} {Z : Nat → Prop} (n : Nat) : ∀ (k : Nat) {ds : List D} {vs : List Value}, RDs w Z ds vs → ds.length = k * n → RDe w Z (chunk n k ds) vs
 | 0, ds, vs, h, hl => by
  have : ds = [] := List.eq_nil_of_length_eq_zero (by omega)
  subst this
  exact h
 | k + 1, ds, vs, h, hl => by
  rw [Nat.add_mul, Nat.one_mul] at hl
  exact ⟨vs.take n, vs.drop n, (List.take_append_drop n vs).symm, RDs_take n h, RDe_chunk n k (RDs_drop n h) (by rw [List.length_drop]; omega)⟩
def zeroL (zc : List V) : Nat → List V
 | 0 => []
 | n + 1 => zc ++ zeroL zc n
theorem zeroL_length (zc : List V) : ∀ n, (zeroL zc n).length = n * zc.length
 | 0 => by simp [zeroL]
 | n + 1 => by rw [zeroL, List.length_append, zeroL_length zc n, Nat.add_mul]; omega
theorem RVs_zero {E : Env} {w : World} {zc : List V} {z : Array Value} (h : RVs E w zc z.toList) : ∀ n, RVs E w (zeroL zc n) ((Array.range (n * z.size)).map (z[· % z.size]!)).toList
 | 0 => by simp [zeroL, RVs]
 | n + 1 => by
  have e : ((Array.range ((n + 1) * z.size)).map (z[· % z.size]!)).toList = z.toList ++ ((Array.range (n * z.size)).map (z[· % z.size]!)).toList := by
   apply List.ext_getElem?
   intro i
   simp only [Array.toList_map, Array.toList_range, List.getElem?_map, List.getElem?_append, Array.length_toList]
   by_cases hi : i < z.size
   ·rw [if_pos hi, List.getElem?_range (by rw [Nat.add_mul]; omega)]
    simp [Nat.mod_eq_of_lt hi, hi]
   ·rw [if_neg hi]
    by_cases h2 : i < (n + 1) * z.size
    ·rw [List.getElem?_range h2, List.getElem?_range (by rw [Nat.add_mul] at h2; omega)]
     have hz : 0 < z.size := by
      rcases Nat.eq_zero_or_pos z.size with h0 | h0
      ·rw [h0] at h2; omega
      ·exact h0
     simp only [Option.map_some]
     congr 2
     rw [Nat.mod_eq_sub_mod (by omega)]
    ·rw [List.getElem?_eq_none (by simpa using Nat.le_of_not_lt h2), List.getElem?_eq_none (by rw [Nat.add_mul] at h2; simp; omega)]
  rw [e]
  exact RVs_append h (RVs_zero h n)
def litL (z : Value) : List V := z.cells.toList.map fun c => V.d (.lit c)
theorem litL_cell {z : Value} : ∀ c ∈ litL z, c.cell = true := fun c hc => by
 obtain ⟨x, _, rfl⟩ := List.mem_map.1 hc; rfl
def bsV (te : TI) (len : Nat) (parts : List (Nat × V)) : Option (List (List D)) :=
 if len * te.size ≤ 16777216 ∧ te.zero.cells.size = te.size ∧ te.zero.cells.toList.all plain = true ∧ 0 < te.size then
  match fillV (fun i => some (i * te.size, te.size)) (zeroL (litL te.zero) len) parts with
  | some r => match toDs r with
   | some ds => if ds.length = len * te.size then some (chunk te.size len ds) else none
   | none => none
  | none => none
 else none
theorem run_buildSlice {P : Program} {T e : TypeId} {ti te : TI} (hT : tyOf P T = some ti) (hd : ti.desc = .slice e) (he : tyOf P e = some te) {S : St} {E : Env} {w : World} {ρ : Operand → Value} (hev : ∀ x, RV E w (S.ev x) (ρ x)) {len : Nat} {parts : Array (Nat × Operand)} {es : List (List D)}
  (h : bsV te len (parts.toList.map fun p => (p.1, S.ev p.2)) = some es) : ∃ cells : Array Value, (Instr.buildSlice T len (parts.map fun (i, x) => (i, ρ x))).run P w = .ok (.slice (some ⟨w.heap.size, 0, none⟩) len len) (w.alloc (.cells cells e)) ∧
   RDe w E.Z es cells.toList ∧ es.length = len ∧ (∀ x ∈ es, x.length = te.size) ∧ cells.size = len * te.size := by
 unfold bsV at h
 split at h
 ·rename_i hc
  obtain ⟨h1, h2, h3, _⟩ := hc
  split at h
  ·rename_i r hr
   split at h
   ·rename_i ds hds
    split at h
    ·rename_i hlen
     injection h with h; subst h
     have hz := RVs_zero (E := E) (w := w) (zc := litL te.zero) (z := te.zero.cells) (RVs_lits h3) len
     rw [h2] at hz
     obtain ⟨c', k1, k2, k3⟩ := fillV_sound hev parts.toList _ _ r hz (fun x hx => by
      have : ∀ n, ∀ x ∈ zeroL (litL te.zero) n, x.cell = true := by
       intro n
       induction n with
       | zero => intro x hx; cases hx
       | succ n ih => intro x hx; rcases List.mem_append.1 hx with hx | hx; exact litL_cell x hx; exact ih x hx
      exact this _ x hx) hr
     have hrd := toDs_sound hds
     rw [hrd] at k2
     have k2 := RVs_d.1 k2
     refine ⟨c', ?_, RDe_chunk _ _ k2 hlen, chunk_length _ _ _, chunk_each _ _ _ (by omega), ?_⟩
     ·have u1 := run_und hT w
      rw [hd] at u1
      have hm : (parts.map fun x => match x with | (i, x) => (i, ρ x)).toList = parts.toList.map fun p => (p.1, ρ p.2) := by simp
      have n1 : ¬ 16777216 < len * te.size := by omega
      rw [← hm] at k1
      have hz0 : (zeroValue e).run P w = .ok te.zero w := run_zero he w
      by_cases hn : len * te.size = 0
      ·rw [hn] at k1
       have k1' : Instr.fill (fun i => some (i * te.size, te.size)) #[] (parts.map fun x => match x with | (i, x) => (i, ρ x)).toList = some c' := by
        have hr0 : Array.range 0 = #[] := rfl
        simpa [hr0] using k1
       simp only [Instr.buildSlice, Sem.run_bind, u1, Result.andThen_ok, run_sizeOf he w, hn, if_true, show Array.range 0 = #[] from rfl, Array.map_empty]
       simp only [Array.toList_map] at k1'
       simp [k1', newRow]
      ·simp only [Instr.buildSlice, Sem.run_bind, u1, Result.andThen_ok, run_sizeOf he w, n1, if_false, hn, Sem.run_pure, hz0]
       have hzs : te.zero.cells.size = te.size := h2
       rw [hzs]
       simp only [Array.toList_map] at k1
       simp [k1, newRow]
     ·have := RDs_length k2
      rw [hlen] at this
      simpa using this
    ·cases h
   ·cases h
  ·cases h
 ·cases h
def effV (ty : TypeId → Option TI) (fz : List Nat) (S : St) (o : Oper) : Option St :=
 match o.op, o.dst with
 | .box _ x, some d => if d ∉ S.rts ∧ (cellsV (S.ev x)).all V.cell = true ∧ hasL d (cellsV (S.ev x)) = false then some (((S.kill d).setH d (some (.box (cellsV (S.ev x))))).put (some d) (.ptr d 0 0)) else none
 | .alloc T, some d => match ty T with
  | some ti => if d ∉ S.rts ∧ ti.zero.cells.toList.all plain = true then some (((S.kill d).setH d (some (.box (litL ti.zero)))).put (some d) (.ptr d 0 0)) else none
  | none => none
 | .store T p x, d => match ty T with
  | some ti => match stV S ti.size (S.ev p) (S.ev x) with
   | some S' => some (S'.put d (.tup []))
   | none => none
  | none => none
 | .buildSlice T len parts, some d => match ty T with
  | some ti => match ti.desc with
   | .slice e => match ty e with
    | some te => match bsV te len (parts.toList.map fun p => (p.1, S.ev p.2)) with
     | some es => if fz.contains d then some (S.put (some d) (.d (.sl es))) else
       if d ∉ S.rts ∧ 0 < te.size then some (((S.kill d).setH d (some (.arr e te.size es))).put (some d) (.ref d 0 len)) else none
     | none => none
    | none => none
   | _ => none
  | none => none
 | .makeSlice T l c, some d => match ty T with
  | some ti => match ti.desc, S.ev l, S.ev c with
   | .slice e, .d (.lit (.int _ n)), .d (.lit (.int _ k)) => match ty e with
    | some te => if 0 ≤ n ∧ n ≤ k ∧ k.toNat * te.bytes ≤ Rp.reach ∧ 0 < te.bytes ∧ te.zero.cells.size = te.size ∧ te.zero.cells.toList.all plain = true ∧ d ∉ S.rts ∧ 0 < te.size then
      some (((S.kill d).setH d (some (.arr e te.size (List.replicate n.toNat (te.zero.cells.toList.map .lit))))).put (some d) (.ref d 0 n.toNat)) else none
    | none => none
   | _, _, _ => none
  | none => none
 | .call c, some d => match c.callee with
  | .builtin .append => match c.args.toList, c.argTypes.toList with
   | [s, x], [T, T'] => if T = T' then match ty T with
    | some ti => match ti.desc with
     | .slice e => match ty e with
      | some te => match apV S d e te (S.ev s) (S.ev x) with
       | some (S', r) => some (S'.put (some d) r)
       | none => none
      | none => none
     | _ => none
    | none => none else none
   | _, _ => none
  | _ => none
 | _, _ => none
theorem RDe_reps {w : World} {Z : Nat → Prop} {z : Array Value} (h : z.toList.all plain = true) : ∀ n, RDe w Z (List.replicate n (z.toList.map D.lit)) ((Array.range (n * z.size)).map (z[· % z.size]!)).toList := by
 have one : ∀ l : List Value, l.all plain = true → RDs w Z (l.map D.lit) l := by
  intro l
  induction l with
  | nil => intro _; exact rfl
  | cons x l ih =>
   intro h
   rw [List.all_cons, Bool.and_eq_true] at h
   exact ⟨x, l, rfl, ⟨rfl, h.1⟩, ih h.2⟩
 intro n
 have hz := RVs_zero (E := ⟨fun _ => default, Z⟩) (w := w) (zc := z.toList.map fun c => V.d (.lit c)) (z := z) (RVs_lits h) n
 have e : ∀ n, zeroL (z.toList.map fun c => V.d (.lit c)) n = ((List.replicate n (z.toList.map D.lit)).flatten).map V.d := by
  intro n
  induction n with
  | zero => rfl
  | succ n ih => rw [zeroL, ih, List.replicate_succ, List.flatten_cons, List.map_append]; simp
 rw [e] at hz
 have hz := RVs_d.1 hz
 have fl : ∀ (es : List (List D)) (vs : List Value), RDs w Z es.flatten vs → RDe w Z es vs := by
  intro es
  induction es with
  | nil => intro vs h; exact h
  | cons x es ih =>
   intro vs h
   rw [List.flatten_cons] at h
   refine ⟨vs.take x.length, vs.drop x.length, (List.take_append_drop _ vs).symm, ?_, ih _ ?_⟩
   ·have := RDs_take x.length h; rwa [List.take_left] at this
   ·have := RDs_drop x.length h; rwa [List.drop_left] at this
 exact fl _ _ hz
theorem Mod.newBox {fx : Fx} {S : St} {E : Env} {a : Act} {w : World} (m : Mod fx S E a w) {d : Nat} (hid : d ∉ S.rts) {cs : List V} {c : Array Value} (T : TypeId) (hc : ∀ x ∈ cs, x.cell = true) (hl : hasL d cs = false) (hv : RVs E w cs c.toList) :
  ∃ E', Mod fx ((S.kill d).setH d (some (.box cs))) E' a (w.alloc (.cells c T)) ∧ RV E' (w.alloc (.cells c T)) (.ptr d 0 0) (.pointer (some ⟨w.heap.size, 0, none⟩)) := by
 have hg := World.grownBy_alloc w (.cells c T) none
 have hk : Keeps E.Z w (w.alloc (.cells c T)) := Keeps.grown m.ok hg fun b hb => by cases hb
 have hb : (w.alloc (.cells c T)).heap[w.heap.size]? = some (.cells c T) := by show (w.heap.push _)[w.heap.size]? = _; simp
 refine ⟨_, m.re (row := none) hid hg (fun b hb => by cases hb) ⟨w.heap.size, 0, 0, 0, false, fun _ => False⟩ (blk := .box cs) ⟨by simp [Env.at], hc, c.toList, ?_, ?_, ?_, ?_⟩ (fun _ => .inr (Nat.le_refl _)), by simp [Env.at], by simp [Env.at]⟩
 ·exact RVs.keep (E := E.at d _) (w := w) hk (fun _ h => h) rfl _ _ (RVs.upd _ _ hl hv)
 ·simp only [Env.at, if_true]
  exact arr_range hb ⟨c.toList.length, List.take_length⟩
 ·intro j hj
  simp only [Env.at, if_true, World.frozen?, hb]
  simp
 ·simp [Env.at]
theorem Mod.newArr {fx : Fx} {S : St} {E : Env} {a : Act} {w : World} (m : Mod fx S E a w) {d : Nat} (hid : d ∉ S.rts) {es : List (List D)} {c : Array Value} {e n cap : Nat} {flat : List Value} (hn : 0 < n) (hes : ∀ x ∈ es, x.length = n) (hcap : es.length ≤ cap) (hm : cap ≤ maxLen) (hsz : c.size = cap * n) (hv : RDe w E.Z es flat) (hc : c.toList.take (es.length * n) = flat) :
  ∃ E', Mod fx ((S.kill d).setH d (some (.arr e n es))) E' a (w.alloc (.cells c e)) ∧ RV E' (w.alloc (.cells c e)) (.ref d 0 es.length) (.slice (some ⟨w.heap.size, 0, none⟩) es.length cap) := by
 have hg := World.grownBy_alloc w (.cells c e) none
 have hk : Keeps E.Z w (w.alloc (.cells c e)) := Keeps.grown m.ok hg fun b hb => by cases hb
 have hb : (w.alloc (.cells c e)).heap[w.heap.size]? = some (.cells c e) := by show (w.heap.push _)[w.heap.size]? = _; simp
 refine ⟨_, m.re (row := none) hid hg (fun b hb => by cases hb) ⟨w.heap.size, 0, n, cap, false, fun _ => False⟩ (blk := .arr e n es)
  ⟨by simp [Env.at], by simp [Env.at], hes, hn, .inr ⟨by simp [Env.at], c, flat, by simpa [Env.at] using hb, by simpa [Env.at] using hcap, by simpa [Env.at] using hm, by simpa [Env.at] using hsz, RDe.keep hk (fun _ h => h) _ _ hv, hc⟩⟩ (fun _ => .inr (Nat.le_refl _)), .inr ⟨by simp [Env.at], by simpa [Env.at] using hcap, 0, by simp [Env.at], fun _ => by simp [Env.at]⟩⟩
theorem effV_sound {P : Program} {fz : List Nat} {S S' : St} {o : Oper} (h : effV (tyOf P) fz S o = some S') {fx : Fx} {a : Act} {w : World} (hm : Models fx S a w) {K : Act → World → Prop} {Q : Exit → Act → World → Prop} (hK : ∀ a' w', Models fx S' a' w' → K a' w') : o.wp P a w K Q := by
 obtain ⟨E, m⟩ := hm
 have hev := m.ev
 unfold Oper.wp execOp
 unfold effV at h
 split at h
 ·-- box
  rename_i T x d ho hd
  split at h
  ·rename_i hc
   obtain ⟨h1, h2, h3⟩ := hc
   injection h with h; subst h
   obtain ⟨E', m', hr⟩ := m.newBox h1 T (fun c hc => List.all_eq_true.1 h2 c hc) h3 (cellsV_sound (hev x) h2)
   have hrun : (Instr.box T (a.eval x)).run P w = .ok (.pointer (some ⟨w.heap.size, 0, none⟩)) (w.alloc (.cells (a.eval x).cells T)) := by simp [Instr.box, newVar, newRow]
   simp only [ho, Sem.run_bind, hrun, Result.andThen_ok, Sem.run_pure, Oper.upon, hd]
   exact hK _ _ ⟨E', m'.put (some d) hr⟩
  ·cases h
 ·-- alloc
  rename_i T d ho hd
  split at h
  ·rename_i ti hT
   split at h
   ·rename_i hc
    obtain ⟨h1, h2⟩ := hc
    injection h with h; subst h
    have hl : ∀ l : List Value, hasL d (l.map fun c => V.d (.lit c)) = false := by
     intro l
     induction l with
     | nil => rfl
     | cons x l ih => simp [hasL, V.has, ih]
    obtain ⟨E', m', hr⟩ := m.newBox (cs := litL ti.zero) (c := ti.zero.cells) h1 T litL_cell (hl _) (RVs_lits h2)
    have hrun : (Instr.alloc T true (.tuple #[])).run P w = .ok (.pointer (some ⟨w.heap.size, 0, none⟩)) (w.alloc (.cells ti.zero.cells T)) := by simp [Instr.alloc, run_zero hT w, newVar, newRow]
    simp only [ho, Sem.run_bind, hrun, Result.andThen_ok, Sem.run_pure, Oper.upon, hd]
    exact hK _ _ ⟨E', m'.put (some d) hr⟩
   ·cases h
  ·cases h
 ·-- store
  rename_i T p x ho
  split at h
  ·rename_i ti hT
   split at h
   ·rename_i S1 hS
    injection h with h; subst h
    obtain ⟨w', hrun, m'⟩ := stV_sound (P := P) hT m (hev p) (hev x) hS
    simp only [ho, Sem.run_bind, hrun, Result.andThen_ok, Sem.run_pure, Oper.upon]
    exact hK _ _ ⟨E, m'.put _ ⟨[], rfl, rfl⟩⟩
   ·cases h
  ·cases h
 ·-- buildSlice
  rename_i T len parts d ho hd
  split at h
  ·rename_i ti hT
   split at h
   ·rename_i e hde
    split at h
    ·rename_i te he
     split at h
     ·rename_i es hes
      obtain ⟨cells, hrun, k1, k2, k3, k4⟩ := run_buildSlice (P := P) hT hde he hev hes
      have hml : len ≤ maxLen := by
       unfold bsV at hes
       split at hes
       ·rename_i hc
        have : len * 1 ≤ len * te.size := Nat.mul_le_mul_left _ hc.2.2.2
        have := hc.1
        unfold maxLen; omega
       ·cases hes
      split at h
      ·injection h with h; subst h
       have m' := m.lay (.cells cells e)
       have hk : Keeps E.Z w (w.alloc (.cells cells e)) := Keeps.grown m.ok (World.grownBy_alloc w (.cells cells e) none) fun b hb => by cases hb
       have hb : (w.alloc (.cells cells e)).heap[w.heap.size]? = some (.cells cells e) := by show (w.heap.push _)[w.heap.size]? = _; simp
       simp only [ho, Sem.run_bind, hrun, Result.andThen_ok, Sem.run_pure, Oper.upon, hd]
       refine hK _ _ ⟨_, m'.put (some d) ⟨some ⟨w.heap.size, 0, none⟩, len, by rw [k2], by omega, hml, (fun h => by cases h), fun _ => ?_⟩⟩
       exact ⟨w.heap.size, 0, te.size, cells.toList, rfl, .inr rfl, k3, RDe.keep hk (fun _ h => .inl h) _ _ k1, arr_range hb ⟨cells.toList.length, List.take_length⟩⟩
      ·split at h
       ·rename_i hc
        obtain ⟨h1, h2⟩ := hc
        injection h with h; subst h
        obtain ⟨E', m', hr⟩ := m.newArr (d := d) (e := e) (c := cells) (cap := len) h1 h2 k3 (by omega) hml k4 k1 (by rw [k2, ← k4]; exact List.take_of_length_le (by simp))
        rw [k2] at hr
        simp only [ho, Sem.run_bind, hrun, Result.andThen_ok, Sem.run_pure, Oper.upon, hd]
        exact hK _ _ ⟨E', m'.put (some d) hr⟩
       ·cases h
     ·cases h
    ·cases h
   ·cases h
  ·cases h
 ·-- makeSlice
  rename_i T l c d ho hd
  split at h
  ·rename_i ti hT
   split at h
   ·rename_i e k1 n k2 k hde hl hc
    split at h
    ·rename_i te he
     split at h
     ·rename_i hcc
      obtain ⟨h0, h1, h2, h3, h4, h5, h6, h7⟩ := hcc
      injection h with h; subst h
      have el := hev l
      have ec := hev c
      rw [hl] at el; rw [hc] at ec
      have el := RD_lit el
      have ec := RD_lit ec
      obtain ⟨_, i0, hi0, hi1, hi2, hi3⟩ := tyOf_spec he
      have htu : P.underlying T = some (.slice e) := by rw [(tyOf_spec hT).1, hde]
      have hkm : k.toNat ≤ Rp.reach := Nat.le_trans (Nat.le_mul_of_pos_right _ h3) h2
      unfold Rp.reach at hkm h2
      have hkk : (k.toNat : Int) = k := Int.toNat_of_nonneg (by omega)
      have hb48 : (i0.bytes : Int) * k ≤ 281474976710656 := by
       rw [hi2, ← hkk, ← Int.natCast_mul, Nat.mul_comm]
       omega
      have hrun := run_make (P := P) w T e i0 te.zero htu hi0 hi3 k1 k2 n k h0 h1 hb48 (by omega)
      have hreps := RDe_reps (w := w) (Z := E.Z) h5
      rw [hi1] at hrun
      obtain ⟨E', m', hr⟩ := m.newArr (d := d) (e := e) (n := te.size) (es := List.replicate n.toNat (te.zero.cells.toList.map D.lit)) (c := madeCells te.zero.cells (k.toNat * te.size)) (cap := k.toNat) h6 h7 (fun x hx => by rw [(List.mem_replicate.1 hx).2]; simp [h4])
       (by simp; omega) (by unfold maxLen; omega) (size_madeCells _ _) (hreps n.toNat) (by
        rw [List.length_replicate]
        unfold madeCells
        rw [h4, Array.toList_map, Array.toList_map, Array.toList_range, Array.toList_range, ← List.map_take]
        rw [List.take_range, Nat.min_eq_left (Nat.mul_le_mul_right _ (by omega))])
      simp only [List.length_replicate] at hr
      simp only [ho, el, ec, Sem.run_bind, hrun, Result.andThen_ok, Sem.run_pure, Oper.upon, hd]
      exact hK _ _ ⟨E', m'.put (some d) hr⟩
     ·cases h
    ·cases h
   ·cases h
  ·cases h
 ·-- call
  rename_i c d ho hd
  split at h
  ·rename_i hcal
   split at h
   ·rename_i s x T T' hargs htys
    split at h
    ·rename_i hTT
     subst hTT
     split at h
     ·rename_i ti hT
      split at h
      ·rename_i e hde
       split at h
       ·rename_i te he
        split at h
        ·rename_i S1 r hap
         injection h with h; subst h
         have ha : c.args = #[s, x] := Array.ext' hargs
         have hty : c.argTypes = #[T, T] := Array.ext' htys
         obtain ⟨u, w', E', hrun, m', hr⟩ := apV_sound (P := P) (ty := o.type) hT hde he m (hev s) (hev x) hap
         simp only [ho, resolve, hcal, ha, hty, invoke, builtin, Sem.run_bind, Sem.run_pure, Result.andThen_ok, List.map_toArray, List.map_cons, List.map_nil, hrun, Oper.upon, hd]
         exact hK _ _ ⟨E', m'.put (some d) hr⟩
        ·cases h
       ·cases h
      ·cases h
     ·cases h
    ·cases h
   ·cases h
  ·cases h
 ·cases h
theorem Chain.eff {P : Program} {ops : Array Oper} {o : Oper} {l : List Oper} {S S' : St} {Q : St → Prop} (fz : List Nat) (hw : wantedV ops S o = some true) (he : effV (tyOf P) fz S o = some S') (h : Chain false P ops l S' Q) : Chain false P ops (o :: l) S Q := by
 intro fx a w Q' hm hq
 have hw' := wantedV_sound hm.choose_spec hw
 unfold wpList
 rw [if_pos hw']
 exact .inl (effV_sound he hm fun a' w' hm' => h fx a' w' Q' hm' hq)
def runM (ty : TypeId → Option TI) (fz : List Nat) (ops : Array Oper) : Nat → List Oper → St → Option (List Oper × St)
 | 0, l, S => some (l, S)
 | n + 1, o :: l, S => match wantedV ops S o with
  | some true => match pureV ty S o.op with
   | some v => runM ty fz ops n l (S.put o.dst v)
   | none => match effV ty fz S o with
    | some S' => runM ty fz ops n l S'
    | none => none
  | some false => runM ty fz ops n l (S.put o.dst (.tup []))
  | none => none
 | _ + 1, [], _ => none
theorem Chain.runM {P : Program} {ops : Array Oper} {Q : St → Prop} (fz : List Nat) : ∀ (n : Nat) {l l' : List Oper} {S S' : St}, runM (tyOf P) fz ops n l S = some (l', S') → Chain false P ops l' S' Q → Chain false P ops l S Q
 | 0, l, l', S, S', h, hc => by
  simp only [Ab.runM, Option.some.injEq, Prod.mk.injEq] at h
  obtain ⟨rfl, rfl⟩ := h
  exact hc
 | n + 1, [], l', S, S', h, hc => by simp [Ab.runM] at h
 | n + 1, o :: l, l', S, S', h, hc => by
  simp only [Ab.runM] at h
  split at h
  ·rename_i hw
   split at h
   ·rename_i v hv
    exact .pure hw hv (Chain.runM fz n h hc)
   ·split at h
    ·rename_i S1 hS
     exact .eff fz hw hS (Chain.runM fz n h hc)
    ·cases h
  ·rename_i hw
   exact .skip hw (Chain.runM fz n h hc)
  ·cases h
end Go.Ab
end
section
namespace Go.Ab
open Go.RowKit
def mapO {α β : Type} (g : α → Option β) : List α → Option (List β)
 | [] => some []
 | x :: xs => match g x, mapO g xs with
  | some y, some ys => some (y :: ys)
  | _, _ => none
def entsD : List (MKey × V) → Option (List (List D))
 | [] => some []
 | (_, .d x) :: l => (entsD l).map fun vs => [x] :: vs
 | _ => none
theorem entsD_sound {E : Env} {w : World} : ∀ {l : List (MKey × V)} {es : List MapEntry} {vs : List (List D)}, REs E w l es → entsD l = some vs → es.map (·.key) = (l.map (·.1)).map MKey.enc ∧ RDx w E.Z false vs (es.map (·.val))
 | [], es, vs, h, hv => by
  have h : es = [] := h
  injection hv with hv
  subst h; subst hv
  exact ⟨rfl, rfl⟩
 | (k, v) :: l, es, vs, ⟨e, r, h1, h2, h3, _, h5⟩, hv => by
  subst h1
  cases v with
  | d x =>
   simp only [entsD] at hv
   cases hl : entsD l with
   | none => simp [hl] at hv
   | some vs' =>
    simp only [hl, Option.map_some, Option.some.injEq] at hv
    subst hv
    obtain ⟨g1, g2⟩ := entsD_sound h5 hl
    exact ⟨by simp [h2, g1], e.val, [e.val], _, rfl, ⟨_, [], rfl, h3, rfl⟩, rfl, g2⟩
  | _ => simp [entsD] at hv
def viewD (H : Heap) : Nat → V → Option D
 | _, .d x => some x
 | _, .mref id => match H id with
  | some (.mp kd l) => (entsD l).map fun vs => .mpi kd false (l.map (·.1)) vs
  | _ => none
 | _, .ref id off len => match H id with
  | some (.arr _ _ es) => if off + len ≤ es.length then some (.sl ((es.drop off).take len)) else none
  | some (.nest _ _ _ es []) => if off + len ≤ es.length then some (.sl ((es.drop off).take len)) else none
  | _ => none
 | k + 1, .ptr id i off => match cellsAt H (.ptr id i off) with
  | some cs => (mapO (viewD H k) cs).map .pim
  | none => none
 | k + 1, .fn (.func f) caps => (mapO (viewD H k) caps).map (.fn (.func f))
 | _, _ => none
def viewV (H : Heap) : V → Option V
 | .agg cs => (mapO (viewD H 2) cs).map fun ds => .agg (ds.map .d)
 | .dx es => some (.dx es)
 | .d x => some (.d x)
 | .fn f caps => (mapO (viewD H 2) caps).map fun ds => .fn f (ds.map .d)
 | v => (viewD H 3 v).map .d
def Env.seen (E : Env) (H : Heap) : Env := { E with Z := fun b => E.Z b ∨ lof E H b }
theorem NCell.data {ℓ : Loc} {Z Z' : Nat → Prop} {w : World} {T n : Nat} {es : List (List D)} {v : Value} (h : NCell ℓ Z w T n es v) (hz : ∀ b, Z b → Z' b) (hb : ℓ.nil = false → Z' ℓ.b) : RD w Z' (.sl es) v := by
 obtain ⟨h1, g1, g2, g3, g4, g5⟩ := h
 rcases h1 with ⟨h1, h2, h3, rfl⟩ | ⟨h1, h2, a, rfl, h4⟩
 ·exact ⟨none, 0, by rw [h3], by omega, Nat.zero_le _, fun _ => rfl, fun h => absurd (List.eq_nil_of_length_eq_zero h3) h⟩
 ·rcases g5 with ⟨g6, _⟩ | ⟨_, c, flat, k1, k2, k3, k4, k5, k6⟩
  ·rw [show ℓ.nil = false from h1] at g6; cases g6
  ·refine ⟨_, _, rfl, by simpa using k2, by simpa using k3, (fun h => by cases h), fun _ => ?_⟩
   have ha := h4 (.inl rfl)
   rw [show (⟨fun _ => ℓ, Z⟩ : Env).loc 0 = ℓ from rfl, g2, Nat.zero_mul] at ha
   subst ha
   exact ⟨_, _, n, flat, rfl, hb h1, g3, RDe.keep (fun _ _ => rfl) hz _ _ k5, arr_range k1 ⟨_, k6⟩⟩
theorem RNs.data {w : World} {Z Z' : Nat → Prop} (hz : ∀ b, Z b → Z' b) : ∀ (sh : List (Option (TypeId × Nat))) (ds : List D) (vs : List Value) (ls : List Loc), (∀ b ∈ blks ls, Z' b) → RNs w Z sh ds vs ls → RDs w Z' ds vs
 | [], _, _, _, _, ⟨h1, h2, _⟩ => by subst h1; exact h2
 | none :: sh, _, _, ls, hb, ⟨d, ds', v, r, h1, h2, h3, h4⟩ => by
  subst h1
  exact ⟨v, r, h2, RD.keep (fun _ _ => rfl) hz d v h3, RNs.data hz sh ds' r ls hb h4⟩
 | some (T, n) :: sh, _, _, _, hb, ⟨es, ds', v, r, ℓ, ls', h1, h2, h3, h4, h6⟩ => by
  subst h1; subst h3
  refine ⟨v, r, h2, h4.data hz (fun hn => hb _ (by simp [blks, hn])), RNs.data hz sh ds' r ls' (fun b h => hb b ?_) h6⟩
  unfold blks at h ⊢
  rw [List.filterMap_cons]
  split
  ·exact h
  ·exact List.mem_cons_of_mem _ h
theorem RNe.data {E : Env} {w : World} {Z' : Nat → Prop} (hz : ∀ b, E.Z b → Z' b) {sh : List (Option (TypeId × Nat))} : ∀ (k : Nat) (es : List (List D)) (vs : List Value) (ls : List Loc), (∀ b ∈ blks ls, Z' b) → RNe E w sh [] k es vs ls → RDe w Z' es vs
 | _, [], _, _, _, ⟨h, _⟩ => h
 | k, e :: es, _, _, hb, ⟨a, r, la, lr, h1, h2, h3, h4⟩ => by
  subst h2
  rw [blks_append] at hb
  exact ⟨a, r, h1, RNs.data hz sh e a la (fun b h => hb b (List.mem_append_left _ h)) h3, RNe.data hz (k + 1) es r lr (fun b h => hb b (List.mem_append_right _ h)) h4⟩
theorem viewDs_sound {E E' : Env} {w : World} {g : V → Option D} (hg : ∀ c d v, RV E w c v → g c = some d → RD w E'.Z d v) : ∀ {cs : List V} {vs : List Value} {ds : List D}, RVs E w cs vs → mapO g cs = some ds → RDs w E'.Z ds vs
 | [], vs, ds, h, hm => by injection hm with hm; subst hm; exact h
 | c :: cs, vs, ds, ⟨v, r, h, h1, h2⟩, hm => by
  simp only [mapO] at hm
  split at hm
  ·rename_i y ys hy hys
   injection hm with hm; subst hm; subst h
   exact ⟨v, r, rfl, hg _ _ _ h1 hy, viewDs_sound hg h2 hys⟩
  ·cases hm
theorem viewD_sound {E : Env} {H : Heap} {w : World} (ok : E.ok H w) : ∀ (k : Nat) (c : V) (d : D) (v : Value), RV E w c v → viewD H k c = some d → RD w (E.seen H).Z d v := by
 have hd : ∀ (x : D) (v : Value), RD w E.Z x v → RD w (E.seen H).Z x v := fun x v h => RD.keep (fun _ _ => rfl) (fun _ h => .inl h) x v h
 have href : ∀ (id off len : Nat) (d : D) (v : Value), RV E w (.ref id off len) v → (match H id with | some (.arr _ _ es) => if off + len ≤ es.length then some (D.sl ((es.drop off).take len)) else none | some (.nest _ _ _ es []) => if off + len ≤ es.length then some (.sl ((es.drop off).take len)) else none | _ => none) = some d → RD w (E.seen H).Z d v := by
  intro id off len d v h hv
  split at hv
  ·rename_i T n es hH
   split at hv
   ·rename_i hle
    injection hv with hv; subst hv
    obtain ⟨g1, g2, g3, g4, g5⟩ := ok.hold _ _ hH
    have hl : ((es.drop off).take len).length = len := by rw [List.length_take, List.length_drop]; omega
    rcases h with ⟨h1, h2, h3, rfl⟩ | ⟨h1, h2, a, rfl, h4⟩
    ·subst h3
     exact ⟨none, 0, by rw [hl], by omega, Nat.zero_le _, fun _ => rfl, fun h => absurd (by simp) h⟩
    ·rcases g5 with ⟨g6, _⟩ | ⟨_, c, flat, k1, k2, k3, k4, k5, k6⟩
     ·rw [h1] at g6; cases g6
     ·have hz : (E.seen H).Z (E.loc id).b := .inr ⟨id, by rw [hH]; simp, Loc.here h1⟩
      refine ⟨_, _, by rw [hl], by omega, by omega, (fun h => by cases h), fun hne => ?_⟩
      by_cases hc : off = 0 ∨ off < (E.loc id).cap
      ·have ha := h4 hc
       rw [g2, g1, Nat.zero_add] at ha
       refine ⟨_, _, n, (flat.drop (off * n)).take (len * n), rfl, hz, fun e he => g3 e (List.mem_of_mem_drop (List.mem_of_mem_take he)), RDe.keep (fun _ _ => rfl) (fun _ h => .inl h) _ _ (RDe_take len (RDe_drop off k5 g3) (fun e he => g3 e (List.mem_of_mem_drop he))), ?_⟩
       have := rangeAt_take (rangeAt_drop (arr_range k1 ⟨_, k6⟩) (off * n)) (len * n)
       rw [Nat.zero_add] at this
       rw [ha]; exact this
      ·have h0 : len = 0 := by omega
       subst h0
       exact absurd (by simp) hne
   ·cases hv
  ·rename_i T n sh es hH
   split at hv
   ·rename_i hle
    injection hv with hv; subst hv
    obtain ⟨g1, g2, g3, g4, gs, gfo, g5⟩ := ok.hold _ _ hH
    have hl : ((es.drop off).take len).length = len := by rw [List.length_take, List.length_drop]; omega
    rcases h with ⟨h1, h2, h3, rfl⟩ | ⟨h1, h2, a, rfl, h4⟩
    ·subst h3
     exact ⟨none, 0, by rw [hl], by omega, Nat.zero_le _, fun _ => rfl, fun h => absurd (by simp) h⟩
    ·rcases g5 with ⟨g6, _⟩ | ⟨_, c, flat, ls, k1, k2, k3, k4, k5, k6, k7⟩
     ·rw [h1] at g6; cases g6
     ·have hz : (E.seen H).Z (E.loc id).b := .inr ⟨id, by rw [hH]; simp, Loc.here h1⟩
      refine ⟨_, _, by rw [hl], by omega, by omega, (fun h => by cases h), fun hne => ?_⟩
      have k5' : RDe w (E.seen H).Z es flat := RNe.data (fun _ h => .inl h) _ _ _ _ (fun b hb => .inr ⟨id, by rw [hH]; simp, .inr (k7.2 b hb).1⟩) k5
      by_cases hc : off = 0 ∨ off < (E.loc id).cap
      ·have ha := h4 hc
       rw [g2, g1, Nat.zero_add] at ha
       refine ⟨_, _, n, (flat.drop (off * n)).take (len * n), rfl, hz, fun e he => g3 e (List.mem_of_mem_drop (List.mem_of_mem_take he)), RDe_take len (RDe_drop off k5' g3) (fun e he => g3 e (List.mem_of_mem_drop he)), ?_⟩
       have := rangeAt_take (rangeAt_drop (arr_range k1 ⟨_, k6⟩) (off * n)) (len * n)
       rw [Nat.zero_add] at this
       rw [ha]; exact this
      ·have h0 : len = 0 := by omega
       subst h0
       exact absurd (by simp) hne
   ·cases hv
  ·cases hv
 have hmref : ∀ (id : Nat) (d : D) (v : Value), RV E w (.mref id) v → (match H id with | some (.mp kd l) => (entsD l).map fun vs => D.mpi kd false (l.map (·.1)) vs | _ => none) = some d → RD w (E.seen H).Z d v := by
  intro id d v h hv
  split at hv
  ·rename_i kd l hH
   cases hl : entsD l with
   | none => simp [hl] at hv
   | some vs =>
    simp only [hl, Option.map_some, Option.some.injEq] at hv
    subst hv
    obtain ⟨g1, g2, es, clock, g3, g4, l', hp, g5⟩ := ok.hold _ _ hH
    obtain ⟨es', hp', g5⟩ := REs_permL hp g5
    obtain ⟨q1, q2⟩ := entsD_sound g5 hl
    have h : v = .map (some (E.loc id).b) := h
    refine .inr ⟨_, es, clock, h, .inr ⟨id, by rw [hH]; simp, Loc.here g1⟩, g3, g4, fun k hk => ?_, es', hp', q1, RDx.keep (fun _ _ => rfl) (fun _ h => .inl h) _ _ _ q2⟩
    obtain ⟨p, hp, rfl⟩ := List.mem_map.1 hk
    exact g2 p hp
  ·cases hv
 intro k
 induction k with
 | zero =>
  intro c d v h hv
  cases c with
  | d x => injection hv with hv; subst hv; exact hd _ _ h
  | mref id => exact hmref id d v h hv
  | ref id off len => exact href id off len d v h hv
  | _ => simp [viewD] at hv
 | succ k ih =>
  intro c d v h hv
  cases c with
  | d x => injection hv with hv; subst hv; exact hd _ _ h
  | mref id => exact hmref id d v h hv
  | ref id off len => exact href id off len d v h hv
  | ptr id i off =>
   simp only [viewD] at hv
   split at hv
   ·rename_i cs hcs
    cases hm : mapO (viewD H k) cs with
    | none => simp [hm] at hv
    | some ds =>
     simp only [hm, Option.map_some, Option.some.injEq] at hv
     subst hv
     obtain ⟨b, o, vs, rfl, h1, h2, h3, h4⟩ := cellsAt_sound ok h hcs
     obtain ⟨hn, hp⟩ := h
     injection hp with hp
     injection hp with hp
     injection hp with hb ho
     refine ⟨b, o, vs, rfl, .inr ⟨id, ?_, .inl ⟨hn, hb.symm⟩⟩, viewDs_sound (fun c d v h hv => ih c d v h hv) h1 hm, h2⟩
     intro hH
     simp [cellsAt, hH] at hcs
   ·cases hv
  | fn f caps =>
   cases f with
   | func g => ?_
   | _ => simp [viewD] at hv
   simp only [viewD] at hv
   cases hm : mapO (viewD H k) caps with
   | none => simp [hm] at hv
   | some ds =>
    simp only [hm, Option.map_some, Option.some.injEq] at hv
    subst hv
    obtain ⟨vs, rfl, h1⟩ := h
    exact ⟨vs, rfl, viewDs_sound (fun c d v h hv => ih c d v h hv) h1 hm⟩
  | _ => simp [viewD] at hv
theorem viewV_sound {E : Env} {H : Heap} {w : World} (ok : E.ok H w) (E' : Env) (hE : E'.Z = (E.seen H).Z) : ∀ (c : V) (c' : V) (v : Value), RV E w c v → viewV H c = some c' → RV E' w c' v := by
 intro c c' v h hv
 have one : ∀ d, viewD H 3 c = some d → RV E' w (.d d) v := fun d hd => by
  show RD w E'.Z d v
  rw [hE]; exact viewD_sound ok 3 c d v h hd
 have hdx : ∀ es, RD w E.Z (.sl es) v → RD w E'.Z (.sl es) v := fun es h => by rw [hE]; exact RD.keep (fun _ _ => rfl) (fun _ h => .inl h) _ _ h
 unfold viewV at hv
 split at hv
 ·rename_i cs
  cases hm : mapO (viewD H 2) cs with
  | none => simp [hm] at hv
  | some ds =>
   simp only [hm, Option.map_some, Option.some.injEq] at hv
   subst hv
   obtain ⟨vs, rfl, h1, h2⟩ := h
   have := viewDs_sound (E' := E') (fun c d v h hv => by rw [hE]; exact viewD_sound ok 2 c d v h hv) h2 hm
   exact ⟨vs, rfl, fun c hc => by obtain ⟨x, _, rfl⟩ := List.mem_map.1 hc; rfl, RVs_d.2 this⟩
 ·injection hv with hv; subst hv
  exact ⟨hdx _ h.1, h.2⟩
 ·rename_i x
  injection hv with hv; subst hv
  exact one _ rfl
 ·rename_i f caps
  cases hm : mapO (viewD H 2) caps with
  | none => simp [hm] at hv
  | some ds =>
   simp only [hm, Option.map_some, Option.some.injEq] at hv
   subst hv
   obtain ⟨vs, rfl, h2⟩ := h
   have := viewDs_sound (E' := E') (fun c d v h hv => by rw [hE]; exact viewD_sound ok 2 c d v h hv) h2 hm
   exact ⟨vs, rfl, RVs_d.2 this⟩
 ·cases hd : viewD H 3 c with
  | none => simp [hd] at hv
  | some d =>
   simp only [hd, Option.map_some, Option.some.injEq] at hv
   subst hv
   exact one d hd
theorem viewVs_sound {E : Env} {H : Heap} {w : World} (ok : E.ok H w) (E' : Env) (hE : E'.Z = (E.seen H).Z) : ∀ {cs cs' : List V} {vs : List Value}, RVs E w cs vs → mapO (viewV H) cs = some cs' → RVs E' w cs' vs
 | [], cs', vs, h, hm => by injection hm with hm; subst hm; exact h
 | c :: cs, cs', vs, ⟨v, r, h, h1, h2⟩, hm => by
  simp only [mapO] at hm
  split at hm
  ·rename_i y ys hy hys
   injection hm with hm; subst hm; subst h
   exact ⟨v, r, rfl, viewV_sound ok E' hE _ _ _ h1 hy, viewVs_sound ok E' hE h2 hys⟩
  ·cases hm
def oneE (ℓ : Loc) (Z : Nat → Prop) : Env := ⟨fun _ => ℓ, Z⟩
def Fun (P : Program) (f : FuncId) (args : List V) (Q : V → Option Blk → Prop) : Prop :=
 ∀ (w : World) (Z : Nat → Prop) (vals : List Value), GW w → (∀ b, Z b → b < w.heap.size) → RVs (oneE default Z) w args vals → Calls P f vals.toArray w fun e w' =>
  ∃ v ℓ Z' r k, e = .returned v ∧ Q r k ∧ RV (oneE ℓ Z') w' r v ∧ (∀ blk, k = some blk → Hold (oneE ℓ Z') w' 0 blk ∧ (∀ b, ℓ.own b → w.heap.size ≤ b ∧ ¬ Z' b ∧ b < w'.heap.size)) ∧
   (∀ b, Z' b → (Z b ∨ w.heap.size ≤ b) ∧ b < w'.heap.size) ∧ Grow w w'
theorem Fun.mono {P : Program} {f : FuncId} {args : List V} {Q Q' : V → Option Blk → Prop} (h : Fun P f args Q) (hq : ∀ r k, Q r k → Q' r k) : Fun P f args Q' :=
 fun w Z vals hg hz hv => (h w Z vals hg hz hv).mono fun _ _ ⟨v, ℓ, Z', r, k, h1, h2, h3⟩ => ⟨v, ℓ, Z', r, k, h1, hq _ _ h2, h3⟩
mutual
def V.only (id : Nat) : V → Bool
 | .ref i _ _ => i == id
 | .ptr i _ _ => i == id
 | .mref i => i == id
 | .agg cs => onlyL id cs
 | .tup cs => onlyL id cs
 | .fn _ cs => onlyL id cs
 | .d _ | .dx _ | .junk | .hole => true
def onlyL (id : Nat) : List V → Bool
 | [] => true
 | c :: cs => c.only id && onlyL id cs
end
mutual
theorem RV.closedTo {E E' : Env} {w : World} (hZ : ∀ b, E.Z b → E'.Z b) : ∀ (c : V) (x : Value), c.closed = true → RV E w c x → RV E' w c x
 | .d x, v, _, h => RD.keep (fun _ _ => rfl) hZ x v h
 | .ref i off len, v, hh, _ => by cases hh
 | .ptr i k off, v, hh, _ => by cases hh
 | .mref i, v, hh, _ => by cases hh
 | .agg cs, v, hh, ⟨vs, h1, h2, h3⟩ => ⟨vs, h1, h2, RVs.closedTo hZ cs vs hh h3⟩
 | .tup cs, v, hh, ⟨vs, h1, h2⟩ => ⟨vs, h1, RVs.closedTo hZ cs vs hh h2⟩
 | .fn f cs, v, hh, ⟨vs, h1, h2⟩ => ⟨vs, h1, RVs.closedTo hZ cs vs hh h2⟩
 | .dx es, v, _, h => ⟨RD.keep (fun _ _ => rfl) hZ _ v h.1, h.2⟩
 | .hole, _, _, h => h
 | .junk, _, hh, _ => by cases hh
theorem RVs.closedTo {E E' : Env} {w : World} (hZ : ∀ b, E.Z b → E'.Z b) : ∀ (cs : List V) (vs : List Value), closedL cs = true → RVs E w cs vs → RVs E' w cs vs
 | [], vs, _, h => h
 | c :: cs, vs, hh, ⟨v, r, h1, h2, h3⟩ => by
  simp only [closedL, Bool.and_eq_true] at hh
  exact ⟨v, r, h1, RV.closedTo hZ c v hh.1 h2, RVs.closedTo hZ cs r hh.2 h3⟩
end
theorem RV.closed {E : Env} {w : World} (ℓ : Loc) (c : V) (x : Value) (hc : c.closed = true) (h : RV E w c x) : RV (oneE ℓ E.Z) w c x := RV.closedTo (E := E) (E' := oneE ℓ E.Z) (fun _ h => h) c x hc h
theorem RVs.closed {E : Env} {w : World} (ℓ : Loc) (cs : List V) (vs : List Value) (hc : closedL cs = true) (h : RVs E w cs vs) : RVs (oneE ℓ E.Z) w cs vs := RVs.closedTo (E := E) (E' := oneE ℓ E.Z) (fun _ h => h) cs vs hc h
theorem REs.closedTo {E E' : Env} {w : World} (hZ : ∀ b, E.Z b → E'.Z b) : ∀ (l : List (MKey × V)) (es : List MapEntry), REs E w l es → REs E' w l es
 | [], _es, h => h
 | (_k, v) :: l, _es, ⟨e, r, h1, h2, h3, h4, h5⟩ => ⟨e, r, h1, h2, RV.closedTo hZ v _ h4 h3, h4, REs.closedTo hZ l r h5⟩
mutual
theorem RV.only {E E' : Env} {w : World} {id : Nat} (hZ : ∀ b, E.Z b → E'.Z b) (hl : ∀ i, i = id → E'.loc i = E.loc id) : ∀ (c : V) (x : Value), c.only id = true → RV E w c x → RV E' w c x
 | .d x, v, _, h => RD.keep (fun _ _ => rfl) hZ x v h
 | .ref i off len, v, hh, h => by
  have : i = id := by simpa [V.only] using hh
  subst this
  unfold RV at h ⊢
  rw [hl i rfl]; exact h
 | .ptr i k off, v, hh, h => by
  have : i = id := by simpa [V.only] using hh
  subst this
  unfold RV at h ⊢
  rw [hl i rfl]; exact h
 | .mref i, v, hh, h => by
  have : i = id := by simpa [V.only] using hh
  subst this
  unfold RV at h ⊢
  rw [hl i rfl]; exact h
 | .agg cs, v, hh, ⟨vs, h1, h2, h3⟩ => ⟨vs, h1, h2, RVs.only hZ hl cs vs hh h3⟩
 | .tup cs, v, hh, ⟨vs, h1, h2⟩ => ⟨vs, h1, RVs.only hZ hl cs vs hh h2⟩
 | .fn f cs, v, hh, ⟨vs, h1, h2⟩ => ⟨vs, h1, RVs.only hZ hl cs vs hh h2⟩
 | .dx es, v, _, h => ⟨RD.keep (fun _ _ => rfl) hZ _ v h.1, h.2⟩
 | .hole, _, _, h => h
 | .junk, _, _, _ => trivial
theorem RVs.only {E E' : Env} {w : World} {id : Nat} (hZ : ∀ b, E.Z b → E'.Z b) (hl : ∀ i, i = id → E'.loc i = E.loc id) : ∀ (cs : List V) (vs : List Value), onlyL id cs = true → RVs E w cs vs → RVs E' w cs vs
 | [], vs, _, h => h
 | c :: cs, vs, hh, ⟨v, r, h1, h2, h3⟩ => by
  simp only [onlyL, Bool.and_eq_true] at hh
  exact ⟨v, r, h1, RV.only hZ hl c v hh.1 h2, RVs.only hZ hl cs r hh.2 h3⟩
end
mutual
def V.ren (d : Nat) : V → V
 | .ref _ off len => .ref d off len
 | .ptr _ i off => .ptr d i off
 | .mref _ => .mref d
 | .agg cs => .agg (renL d cs)
 | .tup cs => .tup (renL d cs)
 | .fn f cs => .fn f (renL d cs)
 | .d x => .d x
 | .dx es => .dx es
 | .hole => .hole
 | .junk => .junk
def renL (d : Nat) : List V → List V
 | [] => []
 | c :: cs => c.ren d :: renL d cs
end
theorem cell_ren {d : Nat} (c : V) : (c.ren d).cell = c.cell := by cases c <;> rfl
theorem renL_cell {d : Nat} : ∀ {cs : List V}, (∀ c ∈ cs, c.cell = true) → ∀ c ∈ renL d cs, c.cell = true
 | [], _, c, hc => by cases hc
 | x :: cs, h, c, hc => by
  rcases List.mem_cons.1 hc with rfl | hc
  ·rw [cell_ren]; exact h x (.head _)
  ·exact renL_cell (fun c h' => h c (.tail _ h')) c hc
mutual
theorem RV.ren {E' : Env} {ℓ : Loc} {Z : Nat → Prop} {w : World} {d : Nat} (hl : E'.loc d = ℓ) (hZ : ∀ b, Z b → E'.Z b) : ∀ (c : V) (x : Value), RV (oneE ℓ Z) w c x → RV E' w (c.ren d) x
 | .d x, v, h => RD.keep (fun _ _ => rfl) hZ x v h
 | .ref i off len, v, h => by
  simp only [V.ren]
  unfold RV at h ⊢
  rw [hl]; exact h
 | .ptr i k off, v, h => by
  simp only [V.ren]
  unfold RV at h ⊢
  rw [hl]; exact h
 | .mref i, v, h => by
  simp only [V.ren]
  unfold RV at h ⊢
  rw [hl]; exact h
 | .agg cs, v, ⟨vs, h1, h2, h3⟩ => ⟨vs, h1, renL_cell h2, RVs.ren hl hZ cs vs h3⟩
 | .tup cs, v, ⟨vs, h1, h2⟩ => ⟨vs, h1, RVs.ren hl hZ cs vs h2⟩
 | .fn f cs, v, ⟨vs, h1, h2⟩ => ⟨vs, h1, RVs.ren hl hZ cs vs h2⟩
 | .dx es, v, h => ⟨RD.keep (fun _ _ => rfl) hZ _ v h.1, h.2⟩
 | .hole, _, h => h
 | .junk, _, _ => trivial
theorem RVs.ren {E' : Env} {ℓ : Loc} {Z : Nat → Prop} {w : World} {d : Nat} (hl : E'.loc d = ℓ) (hZ : ∀ b, Z b → E'.Z b) : ∀ (cs : List V) (vs : List Value), RVs (oneE ℓ Z) w cs vs → RVs E' w (renL d cs) vs
 | [], _vs, h => h
 | c :: cs, _vs, ⟨v, r, h1, h2, h3⟩ => ⟨v, r, h1, RV.ren hl hZ c v h2, RVs.ren hl hZ cs r h3⟩
end
def Blk.ren (d : Nat) : Blk → Blk
 | .arr T n es => .arr T n es
 | .box cs => .box (renL d cs)
 | .mp kd l => .mp kd l
 | .nest T n sh es fo => .nest T n sh es (fo.map fun p => (p.1, renL d p.2))
 | .hid p => .hid p
def calleeV (S : St) (c : Call) : Option (FuncId × List V) :=
 match c.callee with
 | .value fo => match S.ev fo with
  | .d (.lit (.func (.func f) _ _)) => some (f, [])
  | .fn (.func f) caps => some (f, caps)
  | .d (.fn (.func f) caps) => some (f, caps.map .d)
  | _ => none
 | _ => none
theorem calleeV_sound {P : Program} {S : St} {E : Env} {w : World} {ρ : Operand → Value} (hev : ∀ x, RV E w (S.ev x) (ρ x)) {c : Call} {f : FuncId} {caps : List V} (h : calleeV S c = some (f, caps)) (hent : Rp.Enters P f) {o : Oper} (ho : o.op = .call c) :
  ∃ cv : List Value, RVs E w caps cv ∧ ∀ w', (execOp ρ o).run P w' = .ok (.enter f ((c.args.toList.map ρ) ++ cv).toArray) w' := by
 unfold calleeV at h
 split at h
 ·rename_i fo hcal
  have hfo := hev fo
  have key : ∀ cv : List Value, ρ fo = .func (.func f) #[] cv.toArray → ∀ w', (execOp ρ o).run P w' = .ok (.enter f ((c.args.toList.map ρ) ++ cv).toArray) w' := fun cv hv w' => by
   unfold execOp
   rw [ho]
   have e : (#[] ++ c.args.map ρ) ++ cv.toArray = ((c.args.toList.map ρ) ++ cv).toArray := by
    apply Array.ext'
    simp
   simp only [resolve, hcal, hv, Deferred.ofValue, invoke, Sem.run_bind, Sem.run_pure, Result.andThen_ok, e]
   exact hent _ _
  split at h
  ·rename_i g a b hg
   simp only [Option.some.injEq, Prod.mk.injEq] at h
   obtain ⟨rfl, rfl⟩ := h
   rw [hg] at hfo
   obtain ⟨hv, hp⟩ := hfo
   simp only [plain, Bool.and_eq_true, Array.isEmpty_iff] at hp
   obtain ⟨rfl, rfl⟩ := hp
   exact ⟨[], rfl, key [] hv⟩
  ·rename_i g cs hg
   simp only [Option.some.injEq, Prod.mk.injEq] at h
   obtain ⟨rfl, rfl⟩ := h
   rw [hg] at hfo
   obtain ⟨vs, hv, hr⟩ := hfo
   exact ⟨vs, hr, key vs hv⟩
  ·rename_i g cs hg
   simp only [Option.some.injEq, Prod.mk.injEq] at h
   obtain ⟨rfl, rfl⟩ := h
   rw [hg] at hfo
   obtain ⟨vs, hv, hr⟩ := hfo
   exact ⟨vs, RVs_d.2 hr, key vs hv⟩
  ·cases h
 ·cases h
theorem RVs_map {E : Env} {w : World} {ρ : Operand → Value} {ev : Operand → V} (hev : ∀ x, RV E w (ev x) (ρ x)) : ∀ l : List Operand, RVs E w (l.map ev) (l.map ρ)
 | [] => rfl
 | x :: l => ⟨_, _, rfl, hev x, RVs_map hev l⟩
def CallsTo (P : Program) (S : St) (o : Oper) (f : FuncId) (full : List V) : Prop :=
 ∀ (E : Env) (w : World) (ρ : Operand → Value), (∀ x, RV E w (S.ev x) (ρ x)) → ∃ vals : List Value, RVs E w full vals ∧ ∀ w', (execOp ρ o).run P w' = .ok (.enter f vals.toArray) w'
theorem CallsTo.value {P : Program} {S : St} {c : Call} {f : FuncId} {caps : List V} (h : calleeV S c = some (f, caps)) (hent : Rp.Enters P f) {o : Oper} (ho : o.op = .call c) : CallsTo P S o f (c.args.toList.map S.ev ++ caps) := fun E w ρ hev => by
 obtain ⟨cv, hcv, hrun⟩ := calleeV_sound hev h hent ho
 exact ⟨_, RVs_append (RVs_map hev c.args.toList) hcv, hrun⟩
mutual
def V.flat : V → Bool
 | .d (.lit _) => true
 | .d _ => false
 | .dx _ => false
 | .agg cs => flatL cs
 | .tup cs => flatL cs
 | .fn _ cs => flatL cs
 | .ref .. | .ptr .. | .mref _ | .junk | .hole => true
def flatL : List V → Bool
 | [] => true
 | c :: cs => c.flat && flatL cs
end
def D.flat : D → Bool
 | .lit _ => true
 | _ => false
def Blk.flat : Blk → Prop
 | .arr _ _ es => ∀ e ∈ es, ∀ x ∈ e, x.flat = true
 | .box cs => flatL cs = true
 | .mp _ l => ∀ p ∈ l, p.2.flat = true
 | .nest .. => False
 | .hid .. => False
theorem RDs_flat {w : World} {Z Z' : Nat → Prop} : ∀ {e : List D} {vs : List Value}, (∀ x ∈ e, x.flat = true) → RDs w Z e vs → RDs w Z' e vs
 | [], _, _, h => h
 | x :: e, _, hf, ⟨v, r, h, h1, h2⟩ => by
  subst h
  refine ⟨v, r, rfl, ?_, RDs_flat (fun y hy => hf y (.tail _ hy)) h2⟩
  have := hf x (.head _)
  cases x <;> first | exact h1 | (simp [D.flat] at this)
theorem RDe_flat {w : World} {Z Z' : Nat → Prop} : ∀ {es : List (List D)} {vs : List Value}, (∀ e ∈ es, ∀ x ∈ e, x.flat = true) → RDe w Z es vs → RDe w Z' es vs
 | [], _, _, h => h
 | e :: es, _, hf, ⟨a, r, h, h1, h2⟩ => by
  subst h
  exact ⟨a, r, rfl, RDs_flat (hf e (.head _)) h1, RDe_flat (fun e he => hf e (.tail _ he)) h2⟩
mutual
theorem RV.toFlat {ℓ : Loc} {Z Z' : Nat → Prop} {w : World} : ∀ (c : V) (x : Value), c.flat = true → RV (oneE ℓ Z) w c x → RV (oneE ℓ Z') w c x
 | .d (.lit u), v, _, h => h
 | .d (.sl _), v, hh, _ => by cases hh
 | .d (.pim _), v, hh, _ => by cases hh
 | .d (.ifc _ _), v, hh, _ => by cases hh
 | .d (.fn _ _), v, hh, _ => by cases hh
 | .d (.mpi ..), v, hh, _ => by cases hh
 | .d (.er _), v, hh, _ => by cases hh
 | .ref i off len, v, _, h => h
 | .ptr i k off, v, _, h => h
 | .mref i, v, _, h => h
 | .agg cs, v, hh, ⟨vs, h1, h2, h3⟩ => ⟨vs, h1, h2, RVs.toFlat cs vs hh h3⟩
 | .tup cs, v, hh, ⟨vs, h1, h2⟩ => ⟨vs, h1, RVs.toFlat cs vs hh h2⟩
 | .fn f cs, v, hh, ⟨vs, h1, h2⟩ => ⟨vs, h1, RVs.toFlat cs vs hh h2⟩
 | .dx es, v, hh, _ => by cases hh
 | .hole, _, _, h => h
 | .junk, _, _, _ => trivial
theorem RVs.toFlat {ℓ : Loc} {Z Z' : Nat → Prop} {w : World} : ∀ (cs : List V) (vs : List Value), flatL cs = true → RVs (oneE ℓ Z) w cs vs → RVs (oneE ℓ Z') w cs vs
 | [], vs, _, h => h
 | c :: cs, vs, hh, ⟨v, r, h1, h2, h3⟩ => by
  simp only [flatL, Bool.and_eq_true] at hh
  exact ⟨v, r, h1, RV.toFlat c v hh.1 h2, RVs.toFlat cs r hh.2 h3⟩
end
theorem Hold.toFlat {ℓ : Loc} {Z Z' : Nat → Prop} {w : World} {i : Nat} {k : Blk} (hf : k.flat) (h : Hold (oneE ℓ Z) w i k) : Hold (oneE ℓ Z') w i k := by
 cases k with
 | nest T n sh es fo => exact hf.elim
 | hid p => exact hf.elim
 | arr T n es =>
  obtain ⟨h1, h2, h3, h4, h5⟩ := h
  refine ⟨h1, h2, h3, h4, h5.imp (fun h => h) ?_⟩
  rintro ⟨hn, c, flat, k1, k2, k3, k4, k5, k6⟩
  exact ⟨hn, c, flat, k1, k2, k3, k4, RDe_flat hf k5, k6⟩
 | box cs =>
  obtain ⟨h1, h2, vs, h3, h4⟩ := h
  exact ⟨h1, h2, vs, RVs.toFlat cs vs hf h3, h4⟩
 | mp kd l =>
  obtain ⟨h1, h2, es, clock, h3, h4, l', hp, h5⟩ := h
  have key : ∀ (l : List (MKey × V)) (es : List MapEntry), (∀ p ∈ l, p.2.flat = true) → REs (oneE ℓ Z) w l es → REs (oneE ℓ Z') w l es := by
   intro l
   induction l with
   | nil => intro es _ h; exact h
   | cons p l ih =>
    obtain ⟨k, v⟩ := p
    rintro es hf ⟨e, r, g1, g2, g3, g4, g5⟩
    exact ⟨e, r, g1, g2, RV.toFlat v _ (hf (k, v) (.head _)) g3, g4, ih r (fun p hp => hf p (.tail _ hp)) g5⟩
  exact ⟨h1, h2, es, clock, h3, h4, l', hp, key l' _ (fun p hq => hf p (hp.mem_iff.1 hq)) h5⟩
def St.got (S : St) (d : Nat) (r : V) (k : Option Blk) : St := (((S.kill d).setH d (k.map (Blk.ren d))).put (some d) (r.ren d))
theorem Hold.ren {E' : Env} {ℓ : Loc} {Z : Nat → Prop} {w : World} {d i : Nat} {k : Blk} (hl : E'.loc d = ℓ) (hZ : ∀ b, Z b → E'.Z b) (h : Hold (oneE ℓ Z) w i k) : Hold E' w d (k.ren d) := by
 cases k with
 | arr T n es =>
  obtain ⟨h1, h2, h3, h4, h5⟩ := h
  unfold Hold Blk.ren
  simp only
  rw [hl]
  refine ⟨h1, h2, h3, h4, h5.imp (fun h => h) ?_⟩
  rintro ⟨hn, c, flat, k1, k2, k3, k4, k5, k6⟩
  exact ⟨hn, c, flat, k1, k2, k3, k4, RDe.keep (fun _ _ => rfl) hZ _ _ k5, k6⟩
 | hid p =>
  obtain ⟨h1, h2, h3, h4⟩ := h
  unfold Hold Blk.ren
  simp only
  rw [hl]
  exact ⟨h1, h2, h3, h3 _ _ _ _ _ (fun _ _ => rfl) hZ (fun _ _ => rfl) (Nat.le_refl _) h4⟩
 | nest T n sh es fo =>
  obtain ⟨h1, h2, h3, h4, hs, hfo, h5⟩ := h
  unfold Hold Blk.ren
  simp only
  rw [hl]
  refine ⟨h1, h2, h3, h4, hs, fun p hp => ?_, h5.imp (fun h => h) ?_⟩
  ·obtain ⟨q, hq, rfl⟩ := List.mem_map.1 hp
   exact hfo q hq
  rintro ⟨hn, c, flat, ls, k1, k2, k3, k4, k5, k6, k7⟩
  refine ⟨hn, c, flat, ls, k1, k2, k3, k4, ?_, k6, k7⟩
  have hrl : ∀ cs : List V, (renL d cs).length = cs.length := fun cs => by
   induction cs with
   | nil => rfl
   | cons c cs ih => simp only [renL, List.length_cons, ih]
  exact RNe.to (E := oneE ℓ Z) (E' := E') hZ (fun k cs hk => ⟨renL d cs, by rw [flook_map, hk]; rfl, hrl cs, renL_cell, fun vs _ h => RVs.ren hl hZ cs vs h⟩) (fun k hk => by rw [flook_map, hk]; rfl) 0 es flat ls k5
 | box cs =>
  obtain ⟨h1, h2, vs, h3, h4⟩ := h
  unfold Hold Blk.ren
  simp only
  rw [hl]
  exact ⟨h1, renL_cell h2, vs, RVs.ren hl hZ cs vs h3, h4⟩
 | mp kd l =>
  obtain ⟨h1, h2, es, clock, h3, h4, l', hp, h5⟩ := h
  unfold Hold Blk.ren
  simp only
  rw [hl]
  exact ⟨h1, h2, es, clock, h3, h4, l', hp, REs.closedTo hZ l' _ h5⟩
theorem Mod.got {fx : Fx} {S : St} {E : Env} {a : Act} {w w' : World} (m : Mod fx S E a w) (hg : Grow w w') {d : Nat} (hid : d ∉ S.rts) {r : V} {k : Option Blk} {ℓ : Loc} {Z' : Nat → Prop} {v : Value} (hr : RV (oneE ℓ Z') w' r v)
  (hk : ∀ blk, k = some blk → Hold (oneE ℓ Z') w' 0 blk ∧ (∀ b, ℓ.own b → w.heap.size ≤ b ∧ ¬ Z' b ∧ b < w'.heap.size)) (hz : ∀ b, Z' b → (E.Z b ∨ w.heap.size ≤ b) ∧ b < w'.heap.size) : Models fx (S.got d r k) (a.put (some d) v) w' := by
 have m1 := m.growZ hg (Zn := fun b => Z' b ∧ w.heap.size ≤ b) (fun b hb => ⟨hb.2, (hz b hb.1).2⟩)
 have hsub : ∀ b, Z' b → E.Z b ∨ (Z' b ∧ w.heap.size ≤ b) := fun b hb => (hz b hb).1.imp (fun h => h) (fun h => ⟨hb, h⟩)
 have hloc : ∀ E1 : Env, (E1.at d ℓ).loc d = ℓ := fun E1 => by simp [Env.at]
 unfold St.got
 cases k with
 | none =>
  have m2 := m1.kill hid ℓ
  have e : (S.kill d).setH d (Option.map (Blk.ren d) none) = S.kill d := by
   show St.mk _ _ _ _ = St.mk _ _ _ _
   congr 1
   funext i
   by_cases hi : i = d
   ·simp [hi]
   ·simp [hi, St.kill]
  rw [e]
  exact ⟨_, m2.put (some d) (RV.ren (hloc _) hsub r v hr)⟩
 | some blk =>
  obtain ⟨h1, h2⟩ := hk blk rfl
  have m2 := m1.re0 (row := none) hid ⟨rfl, rfl, rfl, Nat.le_refl _, fun _ _ _ => rfl⟩ (fun b hb => by cases hb) ℓ (blk := blk.ren d) (Hold.ren (hloc _) hsub h1) (fun b hb => ?_)
  ·exact ⟨_, m2.put (some d) (RV.ren (hloc _) hsub r v hr)⟩
  ·obtain ⟨g1, g2, g3⟩ := h2 b hb
   refine ⟨.inl (Nat.le_trans m.frame.size g1), ?_, g3, fun i _ hi ho => ?_⟩
   ·rintro (hz1 | hz1)
    ·have := m.ok.zlt _ hz1
     omega
    ·exact g2 hz1.1
   ·have := m.ok.own_lt hi ho
    omega
theorem Chain.call {P : Program} {ops : Array Oper} {o : Oper} {l : List Oper} {S : St} {Q' : St → Prop} {c : Call} {d : Nat} {f : FuncId} {caps args : List V} {Q : V → Option Blk → Prop} (hw : wantedV ops S o = some true) (ho : o.op = .call c) (hd : o.dst = some d)
  (hcal : calleeV S c = some (f, caps)) (hargs : mapO (viewV S.hp) (c.args.toList.map S.ev ++ caps) = some args) (hent : Rp.Enters P f) (hF : Fun P f args Q) (hid : S.rts.contains d = false)
  (hflat : (c.args.toList.map S.ev ++ caps = args ∧ closedL args = true) ∨ ∀ r k, Q r k → r.flat = true ∧ ∀ blk, k = some blk → blk.flat)
  (hrest : ∀ r k, Q r k → Chain false P ops l (S.got d r k) Q') : Chain false P ops (o :: l) S Q' := by
 have hid' : d ∉ S.rts := by simpa using hid
 intro fx a w Q'' ⟨E, m⟩ hq
 have hw' := wantedV_sound m hw
 unfold wpList
 rw [if_pos hw']
 refine .inl ?_
 obtain ⟨cv, hcv, hrun⟩ := calleeV_sound m.ev hcal hent ho
 unfold Oper.wp
 rw [hrun w]
 simp only [Oper.upon, hd]
 have hall := RVs_append (RVs_map m.ev c.args.toList) hcv
 have seen : ∀ b, (E.seen S.hp).Z b → b < w.heap.size := fun b hb => by
  rcases hb with hb | hb
  ·exact m.ok.zlt b hb
  ·exact m.ok.lof_lt hb
 rcases hflat with ⟨hsame, honly⟩ | hflat
 ·-- no views
  have hvs : RVs (oneE default E.Z) w args (c.args.toList.map a.eval ++ cv) := by
   rw [hsame] at hall
   exact RVs.closed default _ _ honly hall
  refine (hF w E.Z _ m.go.gw m.ok.zlt hvs).mono ?_
  rintro e w' ⟨v, ℓ, Z', r, k, rfl, hQ, hr, hk, hz, hg⟩
  exact hrest r k hQ fx _ w' Q'' (m.got hg hid' hr hk hz) hq
 ·have hvs := viewVs_sound m.ok (oneE default (E.seen S.hp).Z) rfl hall hargs
  refine (hF w (E.seen S.hp).Z _ m.go.gw seen hvs).mono ?_
  rintro e w' ⟨v, ℓ, Z', r, k, rfl, hQ, hr, hk, hz, hg⟩
  obtain ⟨hf1, hf2⟩ := hflat r k hQ
  refine hrest r k hQ fx _ w' Q'' (m.got hg hid' (Z' := fun _ => False) (RV.toFlat r v hf1 hr) (fun blk hb => ⟨(hk blk hb).1.toFlat (hf2 blk hb), fun b hn => ⟨((hk blk hb).2 b hn).1, fun h => h, ((hk blk hb).2 b hn).2.2⟩⟩) (fun b hb => hb.elim)) hq
end Go.Ab
end
section
namespace Go.Ab
open Go.RowKit
def litsOf : List V → Option (List Value)
 | [] => some []
 | .d (.lit v) :: cs => if plain v then (litsOf cs).map fun vs => v :: vs else none
 | _ => none
def exactV : V → Option Value
 | .d (.lit v) => if plain v then some v else none
 | .tup cs => (litsOf cs).map fun vs => .tuple vs.toArray
 | _ => none
theorem litsOf_sound {E : Env} {w : World} : ∀ {cs : List V} {vs us : List Value}, RVs E w cs vs → litsOf cs = some us → vs = us
 | [], vs, us, h, hl => by
  injection hl with hl; subst hl; exact h
 | c :: cs, vs, us, ⟨v, r, h, h1, h2⟩, hl => by
  subst h
  unfold litsOf at hl
  split at hl
  ·rename_i heq; cases heq
  ·rename_i u cs' heq
   injection heq with e1 e2
   subst e1; subst e2
   split at hl
   ·cases hr : litsOf cs with
    | none => simp [hr] at hl
    | some us' =>
     simp only [hr, Option.map_some, Option.some.injEq] at hl
     subst hl
     rw [RD_lit h1, litsOf_sound h2 hr]
   ·cases hl
  ·cases hl
theorem exactV_sound {E : Env} {w : World} {r : V} {v x : Value} (h : RV E w r v) (hx : exactV r = some x) : v = x := by
 unfold exactV at hx
 split at hx
 ·split at hx
  ·injection hx with hx; subst hx; exact RD_lit h
  ·cases hx
 ·rename_i cs
  cases hr : litsOf cs with
  | none => simp [hr] at hx
  | some us =>
   simp only [hr, Option.map_some, Option.some.injEq] at hx
   subst hx
   obtain ⟨vs, rfl, h1⟩ := h
   rw [litsOf_sound h1 hr]
 ·cases hx
theorem litsOf_is {E : Env} {w : World} : ∀ {cs : List V} {us : List Value}, litsOf cs = some us → RVs E w cs us
 | [], us, hl => by
  injection hl with hl; subst hl; rfl
 | c :: cs, us, hl => by
  unfold litsOf at hl
  split at hl
  ·rename_i heq; cases heq
  ·rename_i u cs' heq
   injection heq with e1 e2
   subst e1; subst e2
   split at hl
   ·rename_i hp
    cases hr : litsOf cs with
    | none => simp [hr] at hl
    | some us' =>
     simp only [hr, Option.map_some, Option.some.injEq] at hl
     subst hl
     exact ⟨u, us', rfl, ⟨rfl, hp⟩, litsOf_is hr⟩
   ·cases hl
  ·cases hl
theorem exactV_is {E : Env} {w : World} {r : V} {x : Value} (hx : exactV r = some x) : RV E w r x := by
 unfold exactV at hx
 split at hx
 ·split at hx
  ·rename_i hp
   injection hx with hx; subst hx; exact ⟨rfl, hp⟩
  ·cases hx
 ·rename_i cs
  cases hr : litsOf cs with
  | none => simp [hr] at hx
  | some us =>
   simp only [hr, Option.map_some, Option.some.injEq] at hx
   subst hx
   exact ⟨us, rfl, litsOf_is hr⟩
 ·cases hx
theorem Chain.callXG {q : Bool} {P : Program} {ops : Array Oper} {o : Oper} {l : List Oper} {S : St} {Q' : St → Prop} {d : Nat} {f : FuncId} {full args : List V} {r : V} {x : Value} (hw : wantedV ops S o = some true) (hto : CallsTo P S o f full) (hd : o.dst = some d)
  (hargs : mapO (viewV S.hp) full = some args) (hF : Fun P f args (fun r' _ => r' = r)) (hx : exactV r = some x)
  (hrest : Chain q P ops l (S.put (some d) r) Q') : Chain q P ops (o :: l) S Q' := by
 have go : ∀ fx a w E, Mod fx S E a w → Region.wanted o (yielded ops a.tmps) = true ∧ ∃ vals, (∀ w', (execOp a.eval o).run P w' = .ok (.enter f vals) w') ∧ ∀ w', Grow w w' → Calls P f vals w' fun e w'' => e = .returned x ∧ Grow w' w'' := by
  intro fx a w E m
  obtain ⟨vals, hall0, hrun⟩ := hto E w a.eval m.ev
  refine ⟨wantedV_sound m hw, _, hrun, fun w' hg => ?_⟩
  have m' := m.grow hg
  have hall : RVs E w' full vals := RVs.keep (hg.keeps m.ok) (fun _ h => h) rfl _ _ hall0
  have seen : ∀ b, (E.seen S.hp).Z b → b < w'.heap.size := fun b hb => by
   rcases hb with hb | hb
   ·exact m'.ok.zlt b hb
   ·exact m'.ok.lof_lt hb
  have hvs := viewVs_sound m'.ok (oneE default (E.seen S.hp).Z) rfl hall hargs
  refine (hF w' (E.seen S.hp).Z _ (m.grow hg).go.gw seen hvs).mono ?_
  rintro e w'' ⟨v, ℓ, Z', r', k, rfl, rfl, hr, hk, hz, hg'⟩
  exact ⟨by rw [exactV_sound hr hx], hg'⟩
 have hrx : ∀ E w, RV E w r x := fun E w => exactV_is hx
 cases q with
 | false =>
  intro fx a w Q'' ⟨E, m⟩ hq
  obtain ⟨hw', vals, hrun, hcall⟩ := go fx a w E m
  unfold wpList
  rw [if_pos hw']
  refine .inl ?_
  unfold Oper.wp
  rw [hrun w]
  simp only [Oper.upon, hd]
  refine (hcall w (Below.refl _ _)).mono ?_
  rintro e w' ⟨rfl, hg⟩
  exact hrest fx _ w' Q'' ⟨E, (m.grow hg).put (some d) (hrx _ _)⟩ hq
 | true =>
  intro fx a w Q'' ⟨E, m⟩ hq
  obtain ⟨hw', vals, hrun, hcall⟩ := go fx a w E m
  unfold wpQuiet
  rw [if_pos hw']
  refine ⟨x, fun w' hg => ?_, by rw [hd]; exact hrest fx _ w Q'' ⟨E, m.put (some d) (hrx _ _)⟩ hq⟩
  unfold Oper.quietAt
  rw [hrun w']
  exact ⟨rfl, (hcall w' hg).mono fun e w'' ⟨he, hg'⟩ => ⟨he, hg.trans (hg'.mono hg.size)⟩⟩
theorem Chain.callX {q : Bool} {P : Program} {ops : Array Oper} {o : Oper} {l : List Oper} {S : St} {Q' : St → Prop} {c : Call} {d : Nat} {f : FuncId} {caps args : List V} {r : V} {x : Value} (hw : wantedV ops S o = some true) (ho : o.op = .call c) (hd : o.dst = some d)
  (hcal : calleeV S c = some (f, caps)) (hargs : mapO (viewV S.hp) (c.args.toList.map S.ev ++ caps) = some args) (hent : Rp.Enters P f) (hF : Fun P f args (fun r' _ => r' = r)) (hx : exactV r = some x)
  (hrest : Chain q P ops l (S.put (some d) r) Q') : Chain q P ops (o :: l) S Q' := Chain.callXG hw (.value hcal hent ho) hd hargs hF hx hrest
def St.setS (S : St) (t : Nat) (v : V) : St := { S with sl := fun i => if i = t then v else S.sl i }
theorem Sub.of {S S' : St} (h : ∀ fx a w E, Mod fx S E a w → ∃ E', Mod fx S' E' a w) : Sub S S' := fun fx a w ⟨E, m⟩ => h fx a w E m
theorem Sub.le {S S' : St} (hn : S'.nt = S.nt) (hr : S'.rts = S.rts) (hs : ∀ t, S'.sl t = .junk ∨ S'.sl t = S.sl t) (hh : ∀ i, S'.hp i = none ∨ S'.hp i = S.hp i) : Sub S S' := .of fun fx a w E m => by
 have get : ∀ i, S'.hp i ≠ none → S.hp i ≠ none := fun i h => by
  rcases hh i with h' | h'
  ·exact absurd h' h
  ·rw [← h']; exact h
 refine ⟨E, by rw [hn]; exact m.nt, fun t => ?_, m.dfr, ⟨fun i k hk => ?_, fun i j hi hj => m.ok.inj i j (get i hi) (get j hj), fun i hi => m.ok.apart i (get i hi), m.ok.zlt, fun i hi => m.ok.xlt i (get i hi)⟩, m.frame, fun i hi => m.mine i (get i hi), m.z, fun r h => by rw [hr]; exact m.roots r h⟩
 ·rcases hs t with h | h
  ·rw [h]; trivial
  ·rw [h]; exact m.slots t
 ·rcases hh i with h | h
  ·rw [h] at hk; cases hk
  ·rw [h] at hk; exact m.ok.hold i k hk
theorem look_mem : ∀ {l : List (Nat × V)} {i : Nat}, tlook l i = .junk ∨ ∃ p ∈ l, p.1 = i ∧ tlook l i = p.2
 | [], i => .inl rfl
 | (k, v) :: r, i => by
  simp only [tlook]
  by_cases h : i = k
  ·exact .inr ⟨(k, v), .head _, h.symm, by rw [if_pos h]⟩
  ·rw [if_neg h]
   rcases look_mem (l := r) (i := i) with h' | ⟨p, hp, h1, h2⟩
   ·exact .inl h'
   ·exact .inr ⟨p, .tail _ hp, h1, h2⟩
theorem hlook_mem : ∀ {l : List (Nat × Option Blk)} {i : Nat}, hlook l i = none ∨ ∃ p ∈ l, p.1 = i ∧ hlook l i = p.2
 | [], i => .inl rfl
 | (k, v) :: r, i => by
  simp only [hlook]
  by_cases h : i = k
  ·exact .inr ⟨(k, v), .head _, h.symm, by rw [if_pos h]⟩
  ·rw [if_neg h]
   rcases hlook_mem (l := r) (i := i) with h' | ⟨p, hp, h1, h2⟩
   ·exact .inl h'
   ·exact .inr ⟨p, .tail _ hp, h1, h2⟩
theorem Sub.table {nt : Nat} {rts : List Nat} {l l' : List (Nat × V)} {h h' : List (Nat × Option Blk)} (hl : ∀ p ∈ l', p.2 = tlook l p.1) (hh : ∀ p ∈ h', p.2 = hlook h p.1) : Sub (mk nt rts l h) (mk nt rts l' h') :=
 .le rfl rfl (fun t => (look_mem (l := l') (i := t)).imp (fun h => h) fun ⟨p, hp, h1, h2⟩ => by
  show tlook l' t = tlook l t
  rw [h2, hl p hp, h1]) (fun i => (hlook_mem (l := h') (i := i)).imp (fun h => h) fun ⟨p, hp, h1, h2⟩ => by
  show hlook h' i = hlook h i
  rw [h2, hh p hp, h1])
theorem Sub.nilOwn {S : St} {t id T n : Nat} (ht : S.sl t = .d (.lit (.slice none 0 0))) (hid : S.rts.contains id = false) (hn : 0 < n) : Sub S (((S.kill id).setH id (some (.arr T n []))).setS t (.ref id 0 0)) := .of fun fx a w E m => by
 have hid' : id ∉ S.rts := by simpa using hid
 have m' := m.re (row := none) hid' ⟨rfl, rfl, rfl, Nat.le_refl _, fun _ _ _ => rfl⟩ (fun b hb => by cases hb) ⟨0, 0, n, 0, true, fun _ => False⟩ (blk := .arr T n []) ⟨by simp [Env.at], by simp [Env.at], (fun e he => by cases he), hn, .inl ⟨by simp [Env.at], rfl⟩⟩ (fun h => by cases h)
 refine ⟨_, m'.nt, fun i => ?_, m'.dfr, m'.ok, m'.frame, m'.mine, m'.z, m'.roots⟩
 show RV _ w (if i = t then .ref id 0 0 else _) _
 by_cases hi : i = t
 ·rw [if_pos hi]
  have hs := m.slots t
  rw [ht] at hs
  have hs := RD_lit hs
  subst hi
  exact .inl ⟨by simp [Env.at], rfl, rfl, hs⟩
 ·rw [if_neg hi]
  exact m'.slots i
def killL (d : Nat) : List (Nat × V) → List (Nat × V)
 | [] => []
 | (k, v) :: r => (k, if v.has d then .junk else v) :: killL d r
def killB (d : Nat) : Option Blk → Option Blk
 | some (.box cs) => some (.box (killC d cs))
 | some (.nest T n sh es fo) => some (.nest T n sh es (fo.map fun p => (p.1, killC d p.2)))
 | k => k
def killH (d : Nat) : List (Nat × Option Blk) → List (Nat × Option Blk)
 | [] => []
 | (k, b) :: r => (k, if k = d then none else killB d b) :: killH d r
def hupd : List (Nat × Option Blk) → Nat → Option Blk → List (Nat × Option Blk)
 | [], d, v => [(d, v)]
 | (k, u) :: r, d, v => if k = d then (d, v) :: r else (k, u) :: hupd r d v
theorem hlook_hupd (l : List (Nat × Option Blk)) (d : Nat) (v : Option Blk) (i : Nat) : hlook (hupd l d v) i = if i = d then v else hlook l i := by
 induction l with
 | nil => rfl
 | cons p r ih =>
  obtain ⟨k, u⟩ := p
  simp only [hupd]
  by_cases hk : k = d
  ·subst hk
   rw [if_pos rfl]
   simp only [hlook]
   split <;> simp_all
  ·rw [if_neg hk]
   simp only [hlook, ih]
   by_cases hi : i = k
   ·subst hi; rw [if_pos rfl, if_neg hk, if_pos rfl]
   ·rw [if_neg hi, if_neg hi]
theorem mk_setH {nt : Nat} {rts : List Nat} {l : List (Nat × V)} {h : List (Nat × Option Blk)} {d : Nat} {k : Option Blk} : (mk nt rts l h).setH d k = mk nt rts l (hupd h d k) := by
 simp only [mk, St.setH]
 congr 1
 funext i
 rw [hlook_hupd]
theorem mk_setS {nt : Nat} {rts : List Nat} {l : List (Nat × V)} {h : List (Nat × Option Blk)} {d : Nat} {v : V} : (mk nt rts l h).setS d v = mk nt rts (upd l d v) h := by
 simp only [mk, St.setS]
 congr 1
 funext i
 rw [look_upd]
theorem look_killL (d : Nat) : ∀ (l : List (Nat × V)) (i : Nat), tlook (killL d l) i = if (tlook l i).has d then .junk else tlook l i
 | [], i => by simp [tlook, killL, V.has]
 | (k, v) :: r, i => by
  by_cases h : i = k
  ·simp [killL, tlook, h]
  ·simp [killL, tlook, h, look_killL d r i]
theorem hlook_killH (d : Nat) : ∀ (l : List (Nat × Option Blk)) (i : Nat), hlook (killH d l) i = if i = d then none else killB d (hlook l i)
 | [], i => by simp [hlook, killH, killB]
 | (k, v) :: r, i => by
  by_cases h : i = k
  ·subst h; simp [killH, hlook]
  ·simp [killH, hlook, h, hlook_killH d r i]
theorem mk_kill {nt : Nat} {rts : List Nat} {l : List (Nat × V)} {h : List (Nat × Option Blk)} {d : Nat} : (mk nt rts l h).kill d = mk nt rts (killL d l) (killH d h) := by
 simp only [mk, St.kill]
 congr 1
 ·funext i; rw [look_killL]; rfl
 ·funext i
  rw [hlook_killH]
  by_cases hi : i = d
  ·rw [if_pos hi, if_pos hi]
  ·rw [if_neg hi, if_neg hi]
   show (hlook h i).map (Blk.killed d) = killB d (hlook h i)
   cases hlook h i with
   | none => rfl
   | some b => cases b <;> rfl
theorem mk_got {nt : Nat} {rts : List Nat} {l : List (Nat × V)} {h : List (Nat × Option Blk)} {d : Nat} {r : V} {k : Option Blk} (hd : d < nt) : (mk nt rts l h).got d r k = mk nt rts (upd (killL d l) d (r.ren d)) (hupd (killH d h) d (k.map (Blk.ren d))) := by
 unfold St.got
 rw [mk_kill, mk_setH, mk_put hd]
def thenK (K : List Oper → St → Prop) : Option (List Oper × St) → Prop
 | some (l, S) => K l S
 | none => False
theorem Chain.runK {P : Program} {ops : Array Oper} {l : List Oper} {S : St} {Q : St → Prop} (fz : List Nat) (n : Nat) (h : ∀ K : List Oper → St → Prop, (∀ l' S', Chain false P ops l' S' Q → K l' S') → thenK K (Ab.runM (tyOf P) fz ops n l S)) : Chain false P ops l S Q := by
 have := h _ (fun _ _ h => h)
 cases hr : Ab.runM (tyOf P) fz ops n l S with
 | none => rw [hr] at this; exact this.elim
 | some p => rw [hr] at this; exact Chain.runM fz n hr this
theorem Chain.runQ {q : Bool} {P : Program} {ops : Array Oper} {l : List Oper} {S : St} {Q : St → Prop} (n : Nat) (h : ∀ K : List Oper → St → Prop, (∀ l' S', Chain q P ops l' S' Q → K l' S') → thenK K (Ab.runN (tyOf P) ops n l S)) : Chain q P ops l S Q := by
 have := h _ (fun _ _ h => h)
 cases hr : Ab.runN (tyOf P) ops n l S with
 | none => rw [hr] at this; exact this.elim
 | some p => rw [hr] at this; exact Chain.run n hr this
end Go.Ab
end
section
namespace Go.Ab
open Go.RowKit
theorem mk_rts {nt : Nat} {rts : List Nat} {l : List (Nat × V)} {h : List (Nat × Option Blk)} : (mk nt rts l h).rts = rts := rfl
theorem mk_nt {nt : Nat} {rts : List Nat} {l : List (Nat × V)} {h : List (Nat × Option Blk)} : (mk nt rts l h).nt = nt := rfl
theorem ite_lit_bool {p : Prop} [Decidable p] {x y : Bool} : (if p then V.d (.lit (.bool x)) else V.d (.lit (.bool y))) = V.d (.lit (.bool (if p then x else y))) := by split <;> rfl
attribute [simp] killC runM runN wantedV pureV effV St.ev tlook hlook litV plain cellsV V.cell V.has hasL mk_kill mk_setH mk_setS mk_put mk_put_none mk_sl mk_hp mk_rts mk_nt mk_got killL killH killB hupd upd thenK
 cellsAt ldV TypeDesc.row isRow offP idxS litOp eqNil nilSl nilPt nilMp stV setL setD toDs toD bsV fillV zeroL litL chunk apV rowOf srcV lenV sliceSl sliceRef sliceStr bnd buildV placesOf minL minV
 resL resV outV enterL thenQ blockQ calleeV mapO viewV viewD V.closed closedL V.only onlyL V.ren renL Blk.ren V.flat flatL D.flat Blk.flat exactV litsOf ite_lit_bool constB
end Go.Ab
end
section
namespace Go.Ab
open Go.RowKit Go.Rp
def condK (K1 K2 : Prop) : V → Prop
 | .d (.lit (.bool b)) => (b = true → K1) ∧ (b = false → K2)
 | _ => False
def outK (K : V → Prop) : Option V → Prop
 | some r => K r
 | none => False
attribute [simp] condK outK
section
variable {P : Program} {S : St} {Q : Exit → St → Prop}
theorem AW.condK {c : Operand} {x y : Code} (h : ∀ K1 K2 : Prop, (AW P x S Q → K1) → (AW P y S Q → K2) → Ab.condK K1 K2 (S.ev c)) : AW P (.cond c x y) S Q := by
 have h := h _ _ (fun h => h) (fun h => h)
 unfold Ab.condK at h
 split at h
 ·rename_i b hb
  exact .cond hb h.1 h.2
 ·exact h.elim
def Fin (P : Program) (fn : Func) (Q : V → Option Blk → Prop) (e : Exit) (S : St) : Prop :=
 (e = .normal ∨ e = .ret) ∧ ∃ r, outV (tyOf P) fn.results.toList S = some r ∧ ((r.closed = true ∧ Q r none) ∨ ∃ id T n es, r.only id = true ∧ S.hp id = some (.arr T n es) ∧ Q r (some (.arr T n es)))
theorem Fun.fin {f : FuncId} {fn : Func} {c : Code} {args : List V} {Q : V → Option Blk → Prop} (hf : P.funcs[f]? = some fn) (hb : fn.body = some c) (hle : args.length ≤ fn.ntmps)
  (h : AW P c (mk fn.ntmps [] (enterL args 0) []) (Fin P fn Q)) : Fun P f args Q := by
 intro w Z vals hg0 hz hv
 have hC := Ctr.of (P := P) (f := f) (args := args) (h0 := []) (rts := []) (Q := fun r H => (r.closed = true ∧ Q r none) ∨ ∃ id T n es, r.only id = true ∧ H id = some (.arr T n es) ∧ Q r (some (.arr T n es))) hf hb hle
  (h.mono fun e S ⟨h1, r, h2, h3⟩ => ⟨h1, r, h2, h3⟩)
 refine (hC w (oneE default Z) vals (hg0.go0 _ fun _ => rfl) ⟨fun id k hk => (by cases hk), fun i j hi => absurd rfl hi, fun i hi => absurd rfl hi, hz, fun i hi => absurd rfl hi⟩ hv).mono ?_
 rintro e w' ⟨v, E', r, H1, rfl, hq, hr, hp⟩
 have hzz : ∀ b, E'.Z b → (Z b ∨ w.heap.size ≤ b) ∧ b < w'.heap.size := fun b hb => by
  refine ⟨?_, hp.ok.zlt b hb⟩
  rcases hp.z b hb with h | h | ⟨i, hi, _⟩
  ·exact .inl h
  ·exact .inr h
  ·exact absurd rfl hi
 have hg : Grow w w' := ⟨hp.frame.os, hp.frame.tape, hp.frame.output, hp.frame.size, fun k hk => hp.frame.block k hk (fun ⟨i, hi, _⟩ => hi rfl)⟩
 rcases hq with ⟨h1, h2⟩ | ⟨id, T, n, es, h1, h2, h3⟩
 ·exact ⟨v, default, E'.Z, r, none, rfl, h2, RV.closed default r v h1 hr, (fun blk hb => by cases hb), hzz, hg⟩
 ·refine ⟨v, E'.loc id, E'.Z, r, _, rfl, h3, RV.only (E := E') (E' := oneE (E'.loc id) E'.Z) (id := id) (fun _ h => h) (fun i hi => rfl) r v h1 hr, fun blk hblk => ?_, hzz, hg⟩
  injection hblk with hblk
  subst hblk
  have hh := hp.ok.hold id _ h2
  refine ⟨hh, fun b hn => ⟨?_, hp.ok.apart id (by rw [h2]; simp) b hn, hp.ok.own_lt (by rw [h2]; simp) hn⟩⟩
  rcases hp.mine id (by rw [h2]; simp) b hn with h | ⟨i, hi, _⟩
  ·exact h
  ·exact absurd rfl hi
end
class Enc (α : Type) [Rep α] where
 eC : α → List D
 eV : α → V
 soundC : ∀ {w : World} {B : Nat} {a : α} {cs : List Value}, Rep.is w B a cs → RDs w (· < B) (eC a) cs
 soundV : ∀ {E : Env} {w : World} {B : Nat} {a : α} {cs : List Value}, (∀ b, b < B → E.Z b) → Rep.is w B a cs → RV E w (eV a) (Rep.box α cs)
open Enc (eC eV)
class EncF (α : Type) [Flds α] where
 eC : α → List D
 soundC : ∀ {w : World} {B : Nat} {a : α} {cs : List Value}, Flds.is w B a cs → RDs w (· < B) (eC a) cs
instance : Enc Int where
 eC n := [.lit (.int .i64 n)]
 eV n := .d (.lit (.int .i64 n))
 soundC h := by rw [h.1]; exact ⟨_, [], rfl, ⟨rfl, rfl⟩, rfl⟩
 soundV _ h := by rw [h.1]; exact ⟨rfl, rfl⟩
instance : Enc Bool where
 eC b := [.lit (.bool b)]
 eV b := .d (.lit (.bool b))
 soundC h := by
  have h : _ = _ := h
  rw [h]; exact ⟨_, [], rfl, ⟨rfl, rfl⟩, rfl⟩
 soundV _ h := by
  have h : _ = _ := h
  rw [h]; exact ⟨rfl, rfl⟩
instance : Enc ByteArray where
 eC s := [.lit (.string s)]
 eV s := .d (.lit (.string s))
 soundC h := by rw [h.1]; exact ⟨_, [], rfl, ⟨rfl, rfl⟩, rfl⟩
 soundV _ h := by rw [h.1]; exact ⟨rfl, rfl⟩
instance : Enc UInt8 where
 eC s := [.lit (.int .u8 s.toNat)]
 eV s := .d (.lit (.int .u8 s.toNat))
 soundC h := by
  have h : _ = _ := h
  rw [h]; exact ⟨_, [], rfl, ⟨rfl, rfl⟩, rfl⟩
 soundV _ h := by
  have h : _ = _ := h
  rw [h]; exact ⟨rfl, rfl⟩
theorem list_sound {α : Type} [Rep α] [Enc α] {w : World} {B : Nat} {xs : List α} {v : Value} (h : Rep.is w B xs [v]) : RD w (· < B) (.sl (xs.map eC)) v := by
 obtain ⟨A, cap, hv, h1, h2, h3, h4, h5⟩ := h
 simp only [List.cons.injEq, and_true] at hv
 subst hv
 refine ⟨A, cap, by rw [List.length_map], by rw [List.length_map]; exact h1, h2, h4, fun hne => ?_⟩
 have hpos : 0 < xs.length := by
  cases xs with
  | nil => exact absurd rfl hne
  | cons x r => simp
 obtain ⟨b, off, es0, rfl, hB, hes0, hc0⟩ := h5 0 hpos
 have build : ∀ k, k ≤ xs.length → ∃ flat, RDe w (· < B) ((xs.drop (xs.length - k)).map eC) flat ∧ w.rangeAt b (off + (xs.length - k) * Rep.n α) flat ∧ flat.length = k * Rep.n α := by
  intro k
  induction k with
  | zero => intro _; exact ⟨[], by simp [RDe], fun j v hv => by simp at hv, by simp⟩
  | succ k ih =>
   intro hk
   obtain ⟨flat, h6, h7, h8⟩ := ih (by omega)
   have hi : xs.length - (k + 1) < xs.length := by omega
   obtain ⟨b', off', es, hA, _, hes, hc⟩ := h5 _ hi
   injection hA with hA
   injection hA with e1 e2
   subst e1; subst e2
   have hd : xs.drop (xs.length - (k + 1)) = xs[xs.length - (k + 1)] :: xs.drop (xs.length - k) := by
    rw [List.drop_eq_getElem_cons hi]
    congr 2
    omega
   have hel := Rep.len hes
   refine ⟨es ++ flat, ?_, ?_, ?_⟩
   ·rw [hd, List.map_cons]
    exact ⟨es, flat, rfl, Enc.soundC hes, h6⟩
   ·intro j v hv
    rcases Nat.lt_or_ge j es.length with hj | hj
    ·rw [List.getElem?_append_left hj] at hv
     rw [hc j (by omega)]; exact hv
    ·rw [List.getElem?_append_right hj] at hv
     have := h7 _ v hv
     rw [hel] at this
     have e : off + (xs.length - k) * Rep.n α + (j - Rep.n α) = off + (xs.length - (k + 1)) * Rep.n α + j := by
      have : xs.length - k = (xs.length - (k + 1)) + 1 := by omega
      rw [this, Nat.add_mul, Nat.one_mul]; omega
     rw [e] at this
     exact this
   ·rw [List.length_append, hel, h8, Nat.add_mul, Nat.one_mul, Nat.add_comm]
 obtain ⟨flat, h6, h7, h8⟩ := build xs.length (Nat.le_refl _)
 rw [Nat.sub_self] at h6 h7
 rw [Nat.zero_mul, Nat.add_zero] at h7
 refine ⟨b, off, Rep.n α, flat, rfl, hB, fun e he => ?_, by simpa using h6, h7⟩
 obtain ⟨x, hx, rfl⟩ := List.mem_map.1 he
 obtain ⟨i, hi, rfl⟩ := List.getElem_of_mem hx
 obtain ⟨_, _, es, _, _, hes, _⟩ := h5 i hi
 rw [← RDs_length (Enc.soundC hes), Rep.len hes]
theorem isList_one {α : Type} [Rep α] {w : World} {B : Nat} {xs : List α} {cs : List Value} (h : Rep.is w B xs cs) : ∃ v, cs = [v] := by
 obtain ⟨A, cap, hv, _⟩ := h
 exact ⟨_, hv⟩
instance {α : Type} [Rep α] [Enc α] : Enc (List α) where
 eC xs := [.sl (xs.map eC)]
 eV xs := .d (.sl (xs.map eC))
 soundC h := by
  obtain ⟨v, rfl⟩ := isList_one h
  exact ⟨v, [], rfl, list_sound h, rfl⟩
 soundV hz h := by
  obtain ⟨v, rfl⟩ := isList_one h
  exact RD.keep (fun _ _ => rfl) hz _ _ (list_sound h)
instance : EncF Unit where
 eC _ := []
 soundC h := h
instance {α β : Type} [Rep α] [Enc α] [Flds β] [EncF β] : EncF (α × β) where
 eC a := eC a.1 ++ EncF.eC a.2
 soundC h := by
  obtain ⟨c1, c2, rfl, h1, h2⟩ := h
  exact RDs_append (Enc.soundC h1) (EncF.soundC h2)
instance {α : Type} [Flds α] [EncF α] : Enc (Rp.St α) where
 eC a := EncF.eC a.val
 eV a := .agg ((EncF.eC a.val).map V.d)
 soundC h := EncF.soundC (α := α) h
 soundV hz h := ⟨_, rfl, fun c hc => by obtain ⟨x, _, rfl⟩ := List.mem_map.1 hc; rfl, RVs_d.2 (RDs.keep (fun _ _ => rfl) hz _ _ (EncF.soundC (α := α) h))⟩
theorem calls_true {P : Program} {f : FuncId} {vs : List V} {args : Array Value} {W : World} (hgw : GW W) (hF : Fun P f vs (fun r _ => r = .d (.lit (.bool true)))) (hv : RVs (oneE default (· < W.heap.size)) W vs args.toList) :
  Calls P f args W fun e W' => e = .returned (.bool true) ∧ Below W.heap.size W W' := by
 have := hF W (· < W.heap.size) args.toList hgw (fun _ h => h) hv
 rw [show args.toList.toArray = args from Array.toArray_toList] at this
 refine this.mono ?_
 rintro e w' ⟨v, ℓ, Z', r, k, rfl, rfl, hr, _, _, hg⟩
 exact ⟨by rw [RD_lit hr], hg⟩
end Go.Ab
end
section
namespace Go.Ab
open Go.RowKit Go.MapKept
deriving instance DecidableEq for ByteArray
deriving instance DecidableEq for MKey
theorem MKey.inj {a b : MKey} (h : a.enc = b.enc) : a = b := by
 cases a <;> cases b <;> simp [MKey.enc] at h <;> simp [h]
theorem MKey.isKey (k : MKey) : IsKey k.desc k.enc := by cases k <;> simp [MKey.enc, MKey.desc, IsKey]
def klk (l : List (MKey × V)) (k : MKey) : Option V := (l.find? fun p => p.1 = k).map (·.2)
def kput (l : List (MKey × V)) (k : MKey) (v : V) : List (MKey × V) := if (klk l k).isSome then l.map (fun p => if p.1 = k then (k, v) else p) else l ++ [(k, v)]
def kdel (l : List (MKey × V)) (k : MKey) : List (MKey × V) := l.filter fun p => ¬ p.1 = k
theorem klk_cons (p : MKey × V) (l : List (MKey × V)) (k : MKey) : klk (p :: l) k = if p.1 = k then some p.2 else klk l k := by
 by_cases h : p.1 = k <;> simp [klk, h]
theorem REs_find {E : Env} {w : World} {kd : TypeDesc} {k : MKey} (hkd : k.desc = kd) : ∀ {l : List (MKey × V)} {es : List MapEntry} (i : Nat), REs E w l es → (∀ p ∈ l, p.1.desc = kd) →
  (Instr.findNow kd k.enc es i = some none ∧ klk l k = none ∧ ∀ x ∈ es, x.key ≠ k.enc) ∨
  ∃ j e v, Instr.findNow kd k.enc es i = some (some (i + j, e.val)) ∧ es[j]? = some e ∧ e.key = k.enc ∧ klk l k = some v ∧ RV E w v e.val ∧ v.closed = true ∧ ∃ q, l[j]? = some (q, v) ∧ q = k
 | [], es, i, h, _ => by
  have : es = [] := h
  subst this
  exact .inl ⟨rfl, rfl, fun x hx => by cases hx⟩
 | (q, v) :: l, es, i, ⟨e, r, h, h1, h2, h3, h4⟩, hk => by
  subst h
  have hq : IsKey kd e.key := by rw [h1, ← hk (q, v) (.head _)]; exact q.isKey
  have hkk : IsKey kd k.enc := by rw [← hkd]; exact k.isKey
  obtain ⟨b, hb, hiff⟩ := sameNow_of_keys hkk hq
  cases b with
  | true =>
   have he := hiff.1 rfl
   have hqk : q = k := MKey.inj (by rw [← h1, he])
   refine .inr ⟨0, e, v, by simp [Instr.findNow, hb], rfl, he.symm, by rw [klk_cons, if_pos hqk], h2, h3, q, rfl, hqk⟩
  | false =>
   have hne : ¬ q = k := fun e2 => by have := hiff.2 (by rw [h1, e2]); cases this
   have hl : klk ((q, v) :: l) k = klk l k := by rw [klk_cons, if_neg hne]
   rcases REs_find hkd (l := l) (es := r) (i + 1) h4 (fun p hp => hk p (.tail _ hp)) with ⟨g1, g2, g3⟩ | ⟨j, e', v', g1, g2, g3, g4, g5, g6, q', g7, g8⟩
   ·refine .inl ⟨by simp [Instr.findNow, hb, g1], by rw [hl, g2], fun x hx => ?_⟩
    rcases List.mem_cons.1 hx with rfl | hx
    ·rw [h1]; exact fun e2 => hne (MKey.inj e2)
    ·exact g3 x hx
   ·refine .inr ⟨j + 1, e', v', ?_, by simpa using g2, g3, by rw [hl, g4], g5, g6, q', by simpa using g7, g8⟩
    have e3 : i + 1 + j = i + (j + 1) := by omega
    rw [e3] at g1
    simp [Instr.findNow, hb, g1]
def keyV : V → Option MKey
 | .d (.lit (.int .i64 n)) => some (.ik n)
 | .d (.lit (.string s)) => some (.sk s)
 | .d (.lit (.bool b)) => some (.bk b)
 | _ => none
theorem keyV_sound {E : Env} {w : World} {x : V} {v : Value} (h : RV E w x v) {k : MKey} (hk : keyV x = some k) : v = k.enc := by
 unfold keyV at hk
 split at hk
 ·injection hk with hk; subst hk; exact RD_lit h
 ·injection hk with hk; subst hk; exact RD_lit h
 ·injection hk with hk; subst hk; exact RD_lit h
 ·cases hk
def descEq : TypeDesc → TypeDesc → Bool
 | .int .i64, .int .i64 => true
 | .string, .string => true
 | .bool, .bool => true
 | _, _ => false
theorem descEq_sound {a b : TypeDesc} (h : descEq a b = true) : a = b := by
 unfold descEq at h
 split at h <;> first | rfl | cases h
theorem REs_keymap {E : Env} {w : World} : ∀ {l : List (MKey × V)} {es : List MapEntry}, REs E w l es → es.map (·.key) = (l.map (·.1)).map MKey.enc
 | [], _, h => by
  have h : _ = [] := h
  subst h
  rfl
 | (_, _) :: _, _, ⟨_, _, rfl, h1, _, _, h2⟩ => by rw [List.map_cons, List.map_cons, List.map_cons, h1, REs_keymap h2]
theorem REs_nodup {E : Env} {w : World} {l : List (MKey × V)} {es : List MapEntry} (h : REs E w l es) (hn : (es.map (·.key)).Nodup) : (l.map (·.1)).Nodup := by
 rw [REs_keymap h] at hn
 exact (List.pairwise_map.1 hn).imp fun hab e => hab (congrArg _ e)
theorem klk_perm {l l' : List (MKey × V)} (h : l'.Perm l) (k : MKey) (hn : (l'.map (·.1)).Nodup) : klk l' k = klk l k := by
 induction h with
 | nil => rfl
 | cons p _ ih =>
  rw [List.map_cons, List.nodup_cons] at hn
  rw [klk_cons, klk_cons, ih hn.2]
 | swap a b r =>
  rw [List.map_cons, List.map_cons, List.nodup_cons, List.nodup_cons] at hn
  simp only [klk_cons]
  have hab : ¬ b.1 = a.1 := fun e => hn.1 (by rw [e]; exact .head _)
  by_cases h1 : b.1 = k
  ·have h2 : ¬ a.1 = k := fun e => hab (h1.trans e.symm)
   simp [h1, h2]
  ·simp [h1]
 | trans p1 _ ih1 ih2 => rw [ih1 hn, ih2 ((p1.map _).nodup_iff.1 hn)]
theorem kput_perm {l l' : List (MKey × V)} (h : l'.Perm l) (k : MKey) (v : V) (hn : (l'.map (·.1)).Nodup) : (kput l' k v).Perm (kput l k v) := by
 unfold kput
 rw [klk_perm h k hn]
 split
 ·exact h.map _
 ·exact h.append_right _
theorem kdel_perm {l l' : List (MKey × V)} (h : l'.Perm l) (k : MKey) : (kdel l' k).Perm (kdel l k) := h.filter _
def lkV (ty : TypeId → Option TI) (H : Heap) (T : TypeId) (m i : V) : Option (V × Bool) :=
 match ty T with
 | some ti => match ti.desc with
  | .map kt et => match ty kt, ty et, keyV i with
   | some tk, some te, some k => if descEq tk.desc k.desc = true ∧ (litV te.zero).closed = true then (match m with
    | .mref id => match H id with
     | some (.mp kd l) => if descEq kd k.desc = true then (match klk l k with
      | some v => some (v, true)
      | none => some (litV te.zero, false)) else none
     | _ => none
    | .d (.lit (.map none)) => some (litV te.zero, false)
    | _ => none) else none
   | _, _, _ => none
  | _ => none
 | none => none
theorem lkV_sound {P : Program} {H : Heap} {T : TypeId} {m i : V} {mv iv : Value} {r : V} {b : Bool} {E : Env} {w : World} (ok : E.ok H w) (hm : RV E w m mv) (hi : RV E w i iv) (h : lkV (tyOf P) H T m i = some (r, b)) :
  ∃ x, RV E w r x ∧ ∀ w', Grow w w' → (Instr.lookup T mv iv false).run P w' = .ok x w' ∧ (Instr.lookup T mv iv true).run P w' = .ok (.tuple #[x, .bool b]) w' := by
 unfold lkV at h
 split at h
 ·rename_i ti hT
  split at h
  ·rename_i kt et hd
   split at h
   ·rename_i tk te k hkt het hk
    split at h
    ·rename_i hc
     obtain ⟨hc1, hc2⟩ := hc
     have hkd := descEq_sound hc1
     have hiv := keyV_sound hi hk
     subst hiv
     have hu : P.underlying T = some (.map kt et) := by rw [(tyOf_spec hT).1, hd]
     have huk : P.underlying kt = some k.desc := by rw [(tyOf_spec hkt).1, hkd]
     split at h
     ·rename_i id
      have hmv : mv = .map (some (E.loc id).b) := hm
      subst hmv
      split at h
      ·rename_i kd l hH
       split at h
       ·rename_i hkd2
        have hkd2 := descEq_sound hkd2
        obtain ⟨hn, hkeys, es, clock, hb, hst, l', hp, hre⟩ := ok.hold _ _ hH
        have hkeys : ∀ p ∈ l', p.1.desc = kd := fun p hq => hkeys p (hp.mem_iff.1 hq)
        rw [← klk_perm hp k (REs_nodup hre hst.2.2)] at h
        have hlt := (Array.getElem?_eq_some_iff.1 hb).1
        rcases REs_find (k := k) hkd2.symm 0 hre hkeys with ⟨g1, g2, g3⟩ | ⟨j, e, v, g1, g2, g3, g4, g5, g6, _⟩
        ·rw [g2] at h
         simp only [Option.some.injEq, Prod.mk.injEq] at h
         obtain ⟨rfl, rfl⟩ := h
         refine ⟨te.zero, litV_sound E w _, fun w' hg => ?_⟩
         have hb' : w'.heap[(E.loc id).b]? = some (.map es clock) := (hg.block _ hlt).trans hb
         rw [hkd2] at g1
         constructor <;> simp [Instr.lookup, run_underlying hu, MapKept.run_getObj_map hb', MapKept.run_checkKey huk k.isKey, run_findKey huk g1, run_zero het w']
        ·rw [g4] at h
         simp only [Option.some.injEq, Prod.mk.injEq] at h
         obtain ⟨rfl, rfl⟩ := h
         refine ⟨e.val, g5, fun w' hg => ?_⟩
         have hb' : w'.heap[(E.loc id).b]? = some (.map es clock) := (hg.block _ hlt).trans hb
         rw [hkd2] at g1
         constructor <;> simp [Instr.lookup, run_underlying hu, MapKept.run_getObj_map hb', MapKept.run_checkKey huk k.isKey, run_findKey huk g1]
       ·cases h
      ·cases h
     ·obtain ⟨rfl, _⟩ := hm
      simp only [Option.some.injEq, Prod.mk.injEq] at h
      obtain ⟨rfl, rfl⟩ := h
      refine ⟨te.zero, litV_sound E w _, fun w' hg => ?_⟩
      have g1 : Instr.findNow k.desc k.enc [] 0 = some none := rfl
      constructor <;> simp [Instr.lookup, run_underlying hu, MapKept.run_checkKey huk k.isKey, run_findKey huk g1, run_zero het w']
     ·cases h
    ·cases h
   ·cases h
  ·cases h
 ·cases h
theorem Chain.look {q : Bool} {P : Program} {ops : Array Oper} {o : Oper} {l : List Oper} {S : St} {Q : St → Prop} {T : TypeId} {m i : Operand} {c : Bool} {r : V} {b : Bool} (hw : wantedV ops S o = some true) (ho : o.op = .lookup T m i c) (hl : lkV (tyOf P) S.hp T (S.ev m) (S.ev i) = some (r, b))
  (h : Chain q P ops l (S.put o.dst (if c then .tup [r, .d (.lit (.bool b))] else r)) Q) : Chain q P ops (o :: l) S Q := by
 have go : ∀ fx a w E, Mod fx S E a w → ∃ x, RV E w (if c then .tup [r, .d (.lit (.bool b))] else r) x ∧ ∀ w', Grow w w' → (execOp a.eval o).run P w' = .ok (.value x) w' := by
  intro fx a w E md
  obtain ⟨x, hx, hrun⟩ := lkV_sound (P := P) md.ok (md.ev m) (md.ev i) hl
  cases c with
  | true => exact ⟨.tuple #[x, .bool b], ⟨[x, .bool b], rfl, x, [.bool b], rfl, hx, .bool b, [], rfl, ⟨rfl, rfl⟩, rfl⟩, fun w' hg => by unfold execOp; rw [ho]; simp [(hrun w' hg).2]⟩
  | false => exact ⟨x, hx, fun w' hg => by unfold execOp; rw [ho]; simp [(hrun w' hg).1]⟩
 cases q with
 | false =>
  intro fx a w Q' ⟨E, md⟩ hq
  obtain ⟨x, hx, hrun⟩ := go fx a w E md
  unfold wpList
  rw [if_pos (wantedV_sound md hw)]
  refine .inl ?_
  unfold Oper.wp
  rw [hrun w (Below.refl _ _)]
  exact h fx _ w Q' ⟨E, md.put o.dst hx⟩ hq
 | true =>
  intro fx a w Q' ⟨E, md⟩ hq
  obtain ⟨x, hx, hrun⟩ := go fx a w E md
  unfold wpQuiet
  rw [if_pos (wantedV_sound md hw)]
  refine ⟨x, fun w' hg => ?_, h fx _ w Q' ⟨E, md.put o.dst hx⟩ hq⟩
  unfold Oper.quietAt
  rw [hrun w' hg]
  exact ⟨rfl, rfl⟩
theorem grownBy_set (w : World) (b : Nat) (o : Obj) : w.grownBy { w with heap := w.heap.setIfInBounds b o } (some b) :=
 ⟨rfl, rfl, rfl, by simp, fun k hk hr => by
  show (w.heap.setIfInBounds b o)[k]? = _
  rw [Array.getElem?_setIfInBounds_ne (fun e => hr (by rw [e]))]⟩
theorem REs_push {E : Env} {w : World} {k : MKey} {v : V} {e : MapEntry} (hk : e.key = k.enc) (hv : RV E w v e.val) (hc : v.closed = true) : ∀ {l : List (MKey × V)} {es : List MapEntry}, REs E w l es → REs E w (l ++ [(k, v)]) (es ++ [e])
 | [], es, h => by
  have : es = [] := h
  subst this
  exact ⟨e, [], rfl, hk, hv, hc, rfl⟩
 | (q, u) :: l, es, ⟨e', r, h, h1, h2, h3, h4⟩ => by subst h; exact ⟨e', r ++ [e], rfl, h1, h2, h3, REs_push hk hv hc h4⟩
theorem REs_modify {E : Env} {w : World} {k : MKey} {v : V} {f : MapEntry → MapEntry} (hf : ∀ e, (f e).key = k.enc) : ∀ {l : List (MKey × V)} {es : List MapEntry} {j : Nat}, REs E w l es → (∀ e, es[j]? = some e → e.key = k.enc) → (es.map (·.key)).Nodup → j < es.length →
  (∀ e, RV E w v (f e).val) → v.closed = true → REs E w (l.map fun p => if p.1 = k then (k, v) else p) (es.modify j f)
 | [], es, j, h, _, _, hj, _, _ => by
  have : es = [] := h
  subst this
  simp at hj
 | (q, u) :: l, es, 0, ⟨e', r, h, h1, h2, h3, h4⟩, hk, hnd, _, hv, hc => by
  subst h
  have hkk := hk e' rfl
  have hq : q = k := MKey.inj (by rw [← h1, hkk])
  rw [List.map_cons, List.nodup_cons] at hnd
  have same : ∀ (l : List (MKey × V)) (r : List MapEntry), REs E w l r → e'.key ∉ r.map (·.key) → l.map (fun p => if p.1 = k then (k, v) else p) = l := by
   intro l
   induction l with
   | nil => intro r _ _; rfl
   | cons p l ih =>
    obtain ⟨a, b⟩ := p
    rintro r ⟨e2, r2, rfl, g1, g2, g3, g4⟩ hn
    have hne : ¬ a = k := fun e => hn (by rw [List.map_cons, g1, e, hkk]; exact .head _)
    rw [List.map_cons, if_neg hne, ih r2 g4 (fun h => hn (by rw [List.map_cons]; exact .tail _ h))]
  rw [List.map_cons, if_pos hq, same l r h4 hnd.1]
  exact ⟨f e', r, rfl, hf e', hv e', hc, h4⟩
 | (q, u) :: l, es, j + 1, ⟨e', r, h, h1, h2, h3, h4⟩, hk, hnd, hj, hv, hc => by
  subst h
  rw [List.map_cons, List.nodup_cons] at hnd
  have hj' : j < r.length := by simpa using hj
  have hq : ¬ q = k := fun e => by
   have := hk r[j] (by simp [hj'])
   exact hnd.1 (List.mem_map.2 ⟨r[j], List.getElem_mem hj', by rw [this, h1, e]⟩)
  rw [List.map_cons, if_neg hq]
  exact ⟨e', r.modify j f, rfl, h1, h2, h3, REs_modify hf h4 (fun e he => hk e (by simpa using he)) hnd.2 hj' hv hc⟩
theorem Chain.mset {P : Program} {ops : Array Oper} {o : Oper} {l : List Oper} {S : St} {Q : St → Prop} {T : TypeId} {m i x : Operand} {id : Nat} {kd : TypeDesc} {es : List (MKey × V)} {k : MKey} {v : V} {kt et : TypeId} {ti tk : TI} (hw : wantedV ops S o = some true) (ho : o.op = .mapUpdate T m i x ∨ o.op = .insert T m i x)
  (hT : tyOf P T = some ti) (hd : ti.desc = .map kt et) (hkt : tyOf P kt = some tk) (hkd : tk.desc = kd) (hm : S.ev m = .mref id) (hH : S.hp id = some (.mp kd es)) (hk : keyV (S.ev i) = some k) (hkk : k.desc = kd) (hx : S.ev x = v) (hc : v.closed = true)
  (h : Chain false P ops l ((S.setH id (some (.mp kd (kput es k v)))).put o.dst (.tup [])) Q) : Chain false P ops (o :: l) S Q := by
 intro fx a w Q' ⟨E, md⟩ hq
 unfold wpList
 rw [if_pos (wantedV_sound md hw)]
 refine .inl ?_
 have hmv := md.ev m
 rw [hm] at hmv
 have hmv : a.eval m = .map (some (E.loc id).b) := hmv
 have hiv := keyV_sound (md.ev i) hk
 have hxv := md.ev x
 rw [hx] at hxv
 obtain ⟨hn, hkeys, mes, clock, hb, hst, es', hp, hre⟩ := md.ok.hold _ _ hH
 have hkeys : ∀ p ∈ es', p.1.desc = kd := fun p hq => hkeys p (hp.mem_iff.1 hq)
 have hpk := kput_perm hp k v (REs_nodup hre hst.2.2)
 have hu : P.underlying T = some (.map kt et) := by rw [(tyOf_spec hT).1, hd]
 have huk : P.underlying kt = some k.desc := by rw [(tyOf_spec hkt).1, hkd, hkk]
 have fin : ∀ mes' clock', (Instr.mapUpdate T (a.eval m) (a.eval i) (a.eval x)).run P w = .ok () { w with heap := w.heap.setIfInBounds (E.loc id).b (.map mes' clock') } → Stamped mes' clock' → REs E w (kput es' k v) mes'.toList → (∀ p ∈ kput es' k v, p.1.desc = kd) → o.wp P a w (wpList P ops Q' l) Q' := by
  intro mes' clock' hrun hst' hre' hkeys'
  have hg := grownBy_set w (E.loc id).b (.map mes' clock')
  have hkp : Keeps E.Z w { w with heap := w.heap.setIfInBounds (E.loc id).b (.map mes' clock') } := Keeps.grown md.ok hg fun b hb => by injection hb with hb; rw [← hb]; exact md.ok.apart1 id (by rw [hH]; simp) hn
  have m' := md.wr hH hn hg (blk := .mp kd (kput es k v)) ⟨hn, fun p hq => hkeys' p (hpk.mem_iff.2 hq), mes', clock', (heap_set hb).1, hst', _, hpk, REs.keep hkp (fun _ h => h) rfl _ _ hre'⟩
  unfold Oper.wp execOp
  rcases ho with ho | ho <;>
  ·simp only [ho, Sem.run_bind, hrun, Result.andThen_ok, Sem.run_pure, Oper.upon]
   exact h fx _ _ Q' ⟨E, m'.put o.dst ⟨[], rfl, rfl⟩⟩ hq
 rcases REs_find (k := k) hkk 0 hre hkeys with ⟨g1, g2, g3⟩ | ⟨j, e, u, g1, g2, g3, g4, g5, g6, q, g7, g8⟩
 ·refine fin (mes.push { key := k.enc, val := a.eval x, born := clock }) (clock + 1) ?_ (stamped_push hst g3) ?_ ?_
  ·rw [← hkk] at g1
   rw [hmv, hiv]
   simp [Instr.mapUpdate, run_underlying hu, MapKept.run_getObj_map hb, MapKept.run_checkKey huk k.isKey, run_findKey huk g1, MapKept.run_setObj_map _ hb]
  ·have e : kput es' k v = es' ++ [(k, v)] := by simp [kput, g2]
   rw [e, Array.toList_push]
   exact REs_push rfl hxv hc hre
  ·have e : kput es' k v = es' ++ [(k, v)] := by simp [kput, g2]
   rw [e]
   intro p hp
   rcases List.mem_append.1 hp with hp | hp
   ·exact hkeys p hp
   ·simp at hp; rw [hp]; exact hkk
 ·rw [Nat.zero_add] at g1
  have hej : mes[j]? = some e := by simpa using g2
  refine fin (mes.modify j fun e => { e with key := k.enc, val := a.eval x }) clock ?_ (stamped_modify hst _ _ (fun _ _ => rfl) (fun e' _ he' => by rw [hej] at he'; injection he' with he'; subst he'; exact g3.symm)) ?_ ?_
  ·rw [← hkk] at g1
   have hks : (Instr.keyThatStays e.key k.enc).run P w = .ok k.enc w := by
    rw [g3]
    exact run_keyThatStays k.isKey
   rw [hmv, hiv]
   simp [Instr.mapUpdate, run_underlying hu, MapKept.run_getObj_map hb, MapKept.run_checkKey huk k.isKey, run_findKey huk g1, MapKept.run_setObj_map _ hb, hej, hks]
  ·have e1 : kput es' k v = es'.map (fun p => if p.1 = k then (k, v) else p) := by simp [kput, g4]
   rw [e1]
   have e2 : (mes.modify j fun e => { e with key := k.enc, val := a.eval x }).toList = mes.toList.modify j fun e => { e with key := k.enc, val := a.eval x } := by simp
   rw [e2]
   exact REs_modify (fun e => rfl) hre (fun e' he' => by rw [g2] at he'; injection he' with he'; rw [← he']; exact g3) hst.2.2 ((List.getElem?_eq_some_iff.1 g2).1) (fun _ => hxv) hc
  ·have e1 : kput es' k v = es'.map (fun p => if p.1 = k then (k, v) else p) := by simp [kput, g4]
   rw [e1]
   intro p hp
   obtain ⟨p0, hp0, rfl⟩ := List.mem_map.1 hp
   split
   ·exact hkk
   ·exact hkeys p0 hp0
theorem Chain.mmake {P : Program} {ops : Array Oper} {o : Oper} {l : List Oper} {S : St} {Q : St → Prop} {T : TypeId} {d : Nat} (kd : TypeDesc) (hw : wantedV ops S o = some true) (ho : o.op = .makeMap T none) (hd : o.dst = some d) (hid : S.rts.contains d = false)
  (h : Chain false P ops l (((S.kill d).setH d (some (.mp kd []))).put (some d) (.mref d)) Q) : Chain false P ops (o :: l) S Q := by
 intro fx a w Q' ⟨E, md⟩ hq
 unfold wpList
 rw [if_pos (wantedV_sound md hw)]
 refine .inl ?_
 have hid' : d ∉ S.rts := by simpa using hid
 have m' := md.re (row := none) hid' (World.grownBy_alloc w (.map #[] 0) none) (fun b hb => by cases hb) ⟨w.heap.size, 0, 0, 0, false, fun _ => False⟩ (blk := .mp kd []) ⟨by simp [Env.at], (fun p hp => by cases hp), #[], 0, (by simp only [Env.at, if_true]; show (w.heap.push _)[w.heap.size]? = _; simp), stamped_empty 0, [], .refl _, rfl⟩ (fun _ => .inr (Nat.le_refl _))
 have hrun : (Instr.makeMap T none).run P w = .ok (.map (some w.heap.size)) (w.alloc (.map #[] 0)) := by simp [Instr.makeMap, newObj, Sem.run]
 unfold Oper.wp execOp
 simp only [ho, Option.map_none, Sem.run_bind, hrun, Result.andThen_ok, Sem.run_pure, Oper.upon, hd]
 refine h fx _ _ Q' ⟨_, m'.put (some d) ?_⟩ hq
 show Value.map _ = Value.map _
 simp [Env.at]
attribute [simp] lkV keyV descEq
end Go.Ab
end
section
namespace Go.Ab
open Go.RowKit
@[simp] theorem eC_int (n : Int) : (Enc.eC n : List D) = [.lit (.int .i64 n)] := rfl
@[simp] theorem eC_bool (n : Bool) : (Enc.eC n : List D) = [.lit (.bool n)] := rfl
@[simp] theorem eC_str (n : ByteArray) : (Enc.eC n : List D) = [.lit (.string n)] := rfl
@[simp] theorem eC_byte (n : UInt8) : (Enc.eC n : List D) = [.lit (.int .u8 n.toNat)] := rfl
@[simp] theorem eC_list {α : Type} [Rp.Rep α] [Enc α] (xs : List α) : (Enc.eC xs : List D) = [.sl (xs.map Enc.eC)] := rfl
@[simp] theorem eV_int (n : Int) : Enc.eV n = .d (.lit (.int .i64 n)) := rfl
@[simp] theorem eV_bool (n : Bool) : Enc.eV n = .d (.lit (.bool n)) := rfl
@[simp] theorem eV_str (n : ByteArray) : Enc.eV n = .d (.lit (.string n)) := rfl
@[simp] theorem eV_byte (n : UInt8) : Enc.eV n = .d (.lit (.int .u8 n.toNat)) := rfl
@[simp] theorem eV_list {α : Type} [Rp.Rep α] [Enc α] (xs : List α) : Enc.eV xs = .d (.sl (xs.map Enc.eC)) := rfl
theorem bytes_ext {a b : ByteArray} (h : a.data = b.data) : a = b := by cases a; cases b; simp_all
@[simp] theorem toList_beq (x y : ByteArray) : (x.toList == y.toList) = decide (x = y) := by
 rw [← beq_toListBytes]
 by_cases h : x = y
 ·subst h
  simp only [decide_true]
  show (x.data == x.data) = true
  simp
 ·rw [decide_eq_false h]
  cases hb : (x == y) with
  | false => rfl
  | true =>
   have : (x.data == y.data) = true := hb
   have e : x.data = y.data := by simpa using this
   exact absurd (bytes_ext e) h
theorem wrap_i64 {n : Int} (h1 : -9223372036854775808 ≤ n) (h2 : n ≤ 9223372036854775807) : IntKind.i64.wrap n = n := by
 simp only [IntKind.wrap, IntKind.signed, IntKind.bits]
 simp
 omega
@[simp] theorem mapO_viewD_d {H : Heap} {k : Nat} : ∀ cs : List D, mapO (viewD H k) (cs.map V.d) = some cs
 | [] => rfl
 | c :: cs => by
  have e : viewD H k (V.d c) = some c := by cases k <;> rfl
  simp only [List.map_cons, mapO, e, mapO_viewD_d cs]
@[simp] theorem mapO_viewV_d {H : Heap} : ∀ cs : List D, mapO (viewV H) (cs.map V.d) = some (cs.map V.d)
 | [] => rfl
 | c :: cs => by
  have e : viewV H (V.d c) = some (.d c) := rfl
  simp only [List.map_cons, mapO, e, mapO_viewV_d cs]
@[simp] theorem closedL_d : ∀ cs : List D, closedL (cs.map V.d) = true
 | [] => rfl
 | c :: cs => by simp only [List.map_cons, closedL, V.closed, closedL_d cs, Bool.and_self]
@[simp] theorem hasL_d {id : Nat} : ∀ cs : List D, hasL id (cs.map V.d) = false
 | [] => rfl
 | c :: cs => by simp only [List.map_cons, hasL, V.has, hasL_d cs, Bool.or_self]
@[simp] theorem onlyL_d {id : Nat} : ∀ cs : List D, onlyL id (cs.map V.d) = true
 | [] => rfl
 | c :: cs => by simp only [List.map_cons, onlyL, V.only, onlyL_d cs, Bool.and_self]
def endK (K : St → Prop) : Option (List Oper × St) → Prop
 | some ([], S) => K S
 | _ => False
attribute [simp] endK
theorem AW.goR {P : Program} {S : St} {Q : Exit → St → Prop} {id : Nat} {l : List Oper} {y : Code} (fz : List Nat) (n : Nat) (h : ∀ K : St → Prop, (∀ S', AW P y S' Q → K S') → endK K (Ab.runM (tyOf P) fz l.toArray n l S)) (hd : noDefer l = true := by rfl) : AW P (.seq (.region id l.toArray false) y) S Q := by
 refine AW.seqR ?_ hd
 have h := h _ (fun _ h => h)
 unfold endK at h
 split at h
 ·rename_i S' hr; exact Chain.runM fz n hr (.nil h)
 ·exact h.elim
theorem Chain.cut {q : Bool} {P : Program} {ops : Array Oper} {l : List Oper} {S : St} {Q : St → Prop} (S1 : St) (h1 : Chain q P ops l S (fun S' => Sub S' S1)) (h2 : ∀ S', Sub S' S1 → Q S') : Chain q P ops l S Q := by
 cases q with
 | false => exact fun fx a w Q' m hq => h1 fx a w Q' m fun S' a' w' hs m' => hq S' a' w' (h2 S' hs) m'
 | true => exact fun fx a w Q' m hq => h1 fx a w Q' m fun S' a' hs m' => hq S' a' (h2 S' hs) m'
theorem AW.cutR {P : Program} {S : St} {Q : Exit → St → Prop} {id : Nat} {l : List Oper} {y : Code} (S1 : St) (h1 : Chain false P l.toArray l S (fun S' => Sub S' S1)) (h2 : AW P y S1 Q) (hd : noDefer l = true := by rfl) : AW P (.seq (.region id l.toArray false) y) S Q :=
 .seqR (Chain.cut S1 h1 fun _ hs => .sub hs h2) hd
end Go.Ab
end
section
namespace Go.Ab
open Go.RowKit
def lk2 : List (Nat × Nat) → Nat → Option Nat
 | [], _ => none
 | (a, b) :: r, i => if i = a then some b else lk2 r i
theorem lk2_mem : ∀ {ρ : List (Nat × Nat)} {i k : Nat}, lk2 ρ i = some k → (i, k) ∈ ρ
 | [], _, _, h => by cases h
 | (a, b) :: r, i, k, h => by
  simp only [lk2] at h
  split at h
  ·rename_i e
   injection h with h; subst h; subst e
   exact .head _
  ·exact .tail _ (lk2_mem h)
mutual
def V.rnm (ρ : List (Nat × Nat)) : V → Option V
 | .ref id off len => match lk2 ρ id with | some k => some (.ref k off len) | none => none
 | .ptr id i off => match lk2 ρ id with | some k => some (.ptr k i off) | none => none
 | .mref id => match lk2 ρ id with | some k => some (.mref k) | none => none
 | .agg cs => match rnmL ρ cs with | some xs => some (.agg xs) | none => none
 | .tup cs => match rnmL ρ cs with | some xs => some (.tup xs) | none => none
 | .fn f cs => match rnmL ρ cs with | some xs => some (.fn f xs) | none => none
 | .d x => some (.d x)
 | .dx es => some (.dx es)
 | .hole => some .hole
 | .junk => some .junk
def rnmL (ρ : List (Nat × Nat)) : List V → Option (List V)
 | [] => some []
 | c :: cs => match V.rnm ρ c, rnmL ρ cs with
  | some x, some xs => some (x :: xs)
  | _, _ => none
end
def Blk.rnm (ρ : List (Nat × Nat)) : Blk → Option Blk
 | .arr T n es => some (.arr T n es)
 | .box cs => match rnmL ρ cs with | some xs => some (.box xs) | none => none
 | .mp kd l => some (.mp kd l)
 | .nest T n sh es [] => some (.nest T n sh es [])
 | .hid p => some (.hid p)
 | .nest _ _ _ _ (_ :: _) => none
theorem rnm_cell {ρ : List (Nat × Nat)} : ∀ {c c' : V}, c.rnm ρ = some c' → c.cell = true → c'.cell = true
 | .ref .., c', h, _ => by
  simp only [V.rnm] at h; split at h
  ·injection h with h; subst h; rfl
  ·cases h
 | .ptr .., c', h, _ => by
  simp only [V.rnm] at h; split at h
  ·injection h with h; subst h; rfl
  ·cases h
 | .mref _, c', h, _ => by
  simp only [V.rnm] at h; split at h
  ·injection h with h; subst h; rfl
  ·cases h
 | .fn .., c', h, _ => by
  simp only [V.rnm] at h; split at h
  ·injection h with h; subst h; rfl
  ·cases h
 | .d _, c', h, _ => by
  simp only [V.rnm] at h; injection h with h; subst h; rfl
 | .agg _, _, _, hc => by cases hc
 | .tup _, _, _, hc => by cases hc
 | .dx _, _, _, hc => by cases hc
 | .hole, c', h, _ => by
  simp only [V.rnm] at h; injection h with h; subst h; rfl
 | .junk, _, _, hc => by cases hc
theorem rnmL_cell {ρ : List (Nat × Nat)} : ∀ {cs cs' : List V}, rnmL ρ cs = some cs' → (∀ c ∈ cs, c.cell = true) → ∀ c ∈ cs', c.cell = true
 | [], cs', h, _, c, hc => by injection h with h; subst h; cases hc
 | x :: cs, cs', h, hall, c, hc => by
  simp only [rnmL] at h
  split at h
  ·rename_i y ys h1 h2
   injection h with h; subst h
   rcases List.mem_cons.1 hc with rfl | hc
   ·exact rnm_cell h1 (hall x (.head _))
   ·exact rnmL_cell h2 (fun c h' => hall c (.tail _ h')) c hc
  ·cases h
mutual
theorem RV.rnm {E E' : Env} {w : World} {ρ : List (Nat × Nat)} (hl : ∀ i k, lk2 ρ i = some k → E'.loc k = E.loc i) (hZ : ∀ b, E.Z b → E'.Z b) : ∀ (c c' : V) (x : Value), c.rnm ρ = some c' → RV E w c x → RV E' w c' x
 | .d x, c', v, h, hr => by
  simp only [V.rnm] at h; injection h with h; subst h
  exact RD.keep (fun _ _ => rfl) hZ x v hr
 | .ref i off len, c', v, h, hr => by
  simp only [V.rnm] at h
  split at h
  ·rename_i k hk
   injection h with h; subst h
   unfold RV at hr ⊢
   rw [hl i k hk]; exact hr
  ·cases h
 | .ptr i k off, c', v, h, hr => by
  simp only [V.rnm] at h
  split at h
  ·rename_i k hk
   injection h with h; subst h
   unfold RV at hr ⊢
   rw [hl i k hk]; exact hr
  ·cases h
 | .mref i, c', v, h, hr => by
  simp only [V.rnm] at h
  split at h
  ·rename_i k hk
   injection h with h; subst h
   unfold RV at hr ⊢
   rw [hl i k hk]; exact hr
  ·cases h
 | .agg cs, c', v, h, ⟨vs, h1, h2, h3⟩ => by
  simp only [V.rnm] at h
  split at h
  ·rename_i xs hx
   injection h with h; subst h
   exact ⟨vs, h1, rnmL_cell hx h2, RVs.rnm hl hZ cs xs vs hx h3⟩
  ·cases h
 | .tup cs, c', v, h, ⟨vs, h1, h2⟩ => by
  simp only [V.rnm] at h
  split at h
  ·rename_i xs hx
   injection h with h; subst h
   exact ⟨vs, h1, RVs.rnm hl hZ cs xs vs hx h2⟩
  ·cases h
 | .fn f cs, c', v, h, ⟨vs, h1, h2⟩ => by
  simp only [V.rnm] at h
  split at h
  ·rename_i xs hx
   injection h with h; subst h
   exact ⟨vs, h1, RVs.rnm hl hZ cs xs vs hx h2⟩
  ·cases h
 | .dx es, c', v, h, hr => by
  simp only [V.rnm] at h; injection h with h; subst h
  exact ⟨RD.keep (fun _ _ => rfl) hZ _ v hr.1, hr.2⟩
 | .hole, c', v, h, hr => by
  simp only [V.rnm] at h; injection h with h; subst h
  exact hr
 | .junk, c', v, h, _ => by
  simp only [V.rnm] at h; injection h with h; subst h
  trivial
theorem RVs.rnm {E E' : Env} {w : World} {ρ : List (Nat × Nat)} (hl : ∀ i k, lk2 ρ i = some k → E'.loc k = E.loc i) (hZ : ∀ b, E.Z b → E'.Z b) : ∀ (cs cs' : List V) (vs : List Value), rnmL ρ cs = some cs' → RVs E w cs vs → RVs E' w cs' vs
 | [], cs', vs, h, hr => by
  injection h with h; subst h; exact hr
 | c :: cs, cs', vs, h, ⟨v, r, h1, h2, h3⟩ => by
  simp only [rnmL] at h
  split at h
  ·rename_i y ys g1 g2
   injection h with h; subst h
   exact ⟨v, r, h1, RV.rnm hl hZ c y v g1 h2, RVs.rnm hl hZ cs ys r g2 h3⟩
  ·cases h
end
theorem Hold.rnm {E E' : Env} {w : World} {ρ : List (Nat × Nat)} (hl : ∀ i k, lk2 ρ i = some k → E'.loc k = E.loc i) (hZ : ∀ b, E.Z b → E'.Z b) {i j : Nat} (hij : E'.loc j = E.loc i) {k k' : Blk} (h : k.rnm ρ = some k') (hh : Hold E w i k) : Hold E' w j k' := by
 cases k with
 | arr T n es =>
  simp only [Blk.rnm] at h; injection h with h; subst h
  obtain ⟨h1, h2, h3, h4, h5⟩ := hh
  unfold Hold
  rw [hij]
  refine ⟨h1, h2, h3, h4, h5.imp (fun h => h) ?_⟩
  rintro ⟨hn, c, flat, k1, k2, k3, k4, k5, k6⟩
  exact ⟨hn, c, flat, k1, k2, k3, k4, RDe.keep (fun _ _ => rfl) hZ _ _ k5, k6⟩
 | box cs =>
  simp only [Blk.rnm] at h
  split at h
  ·rename_i xs hx
   injection h with h; subst h
   obtain ⟨h1, h2, vs, h3, h4⟩ := hh
   unfold Hold
   rw [hij]
   exact ⟨h1, rnmL_cell hx h2, vs, RVs.rnm hl hZ cs xs vs hx h3, h4⟩
  ·cases h
 | hid p =>
  simp only [Blk.rnm] at h; injection h with h; subst h
  obtain ⟨h1, h2, h3, h4⟩ := hh
  unfold Hold
  rw [hij]
  exact ⟨h1, h2, h3, h3 _ _ _ _ _ (fun _ _ => rfl) hZ (fun _ _ => rfl) (Nat.le_refl _) h4⟩
 | nest T n sh es fo =>
  cases fo with
  | cons p fo => simp only [Blk.rnm] at h; cases h
  | nil =>
   simp only [Blk.rnm] at h; injection h with h; subst h
   obtain ⟨h1, h2, h3, h4, hs, hfo, h5⟩ := hh
   unfold Hold
   rw [hij]
   refine ⟨h1, h2, h3, h4, hs, hfo, h5.imp (fun h => h) ?_⟩
   rintro ⟨hn, c, flat, ls, k1, k2, k3, k4, k5, k6, k7⟩
   exact ⟨hn, c, flat, ls, k1, k2, k3, k4, RNe.to (E := E) (E' := E') hZ (fun k cs hk => by cases hk) (fun k hk => hk) 0 es flat ls k5, k6, k7⟩
 | mp kd l =>
  simp only [Blk.rnm] at h; injection h with h; subst h
  obtain ⟨h1, h2, es, clock, h3, h4, l', hp, h5⟩ := hh
  unfold Hold
  rw [hij]
  exact ⟨h1, h2, es, clock, h3, h4, l', hp, REs.closedTo hZ l' _ h5⟩
end Go.Ab
end
section
namespace Go.Ab
open Go.RowKit
theorem Mod.drop {fx : Fx} {S : St} {E : Env} {a : Act} {w : World} (m : Mod fx S E a w) (k : Nat) : Mod fx (S.setH k none) E a w := by
 have get : ∀ i, (S.setH k none).hp i ≠ none → S.hp i ≠ none := fun i h => by
  simp only [St.setH] at h
  split at h
  ·exact absurd rfl h
  ·exact h
 refine ⟨m.nt, m.slots, m.dfr, ⟨fun i b h => ?_, fun i j hi hj => m.ok.inj i j (get i hi) (get j hj), fun i hi => m.ok.apart i (get i hi), m.ok.zlt, fun i hi => m.ok.xlt i (get i hi)⟩, m.frame, fun i hi => m.mine i (get i hi), m.z, m.roots⟩
 simp only [St.setH] at h
 split at h
 ·cases h
 ·exact m.ok.hold i b h
def St.drops : List (Nat × Nat) → St → St
 | [], S => S
 | (k, _) :: r, S => St.drops r (S.setH k none)
theorem Mod.drops {fx : Fx} {E : Env} {a : Act} {w : World} : ∀ (l : List (Nat × Nat)) {S : St}, Mod fx S E a w → Mod fx (St.drops l S) E a w
 | [], _, m => m
 | (k, _) :: r, _, m => Mod.drops r (m.drop k)
theorem drops_hp : ∀ (l : List (Nat × Nat)) {S : St} (i : Nat), (St.drops l S).hp i ≠ none → S.hp i ≠ none ∧ ∀ p ∈ l, p.1 ≠ i
 | [], _, _, h => ⟨h, fun p hp => by cases hp⟩
 | (k, c) :: r, S, i, h => by
  obtain ⟨h1, h2⟩ := drops_hp r i h
  simp only [St.setH] at h1
  split at h1
  ·exact absurd rfl h1
  ·rename_i hi
   refine ⟨h1, fun p hp => ?_⟩
   rcases List.mem_cons.1 hp with rfl | hp
   ·exact fun e => hi e.symm
   ·exact h2 p hp
theorem drops_rts : ∀ (l : List (Nat × Nat)) {S : St}, (St.drops l S).rts = S.rts
 | [], _ => rfl
 | (_, _) :: r, _ => drops_rts r
theorem Mod.move {fx : Fx} {S : St} {E : Env} {a : Act} {w w' : World} (m : Mod fx S E a w) (L : Nat → Prop) (hos : w'.os = w.os) (htape : w'.tape = w.tape) (hout : w'.output = w.output) (hsize : w.heap.size ≤ w'.heap.size)
  (hb : ∀ b, b < w.heap.size → ¬ L b → w'.heap[b]? = w.heap[b]?) (hL : ∀ b, L b → fx.w0.heap.size ≤ b ∨ fx.L b) (hap : ∀ i, S.hp i ≠ none → ∀ b, (E.loc i).own b → ¬ L b) (hz : ∀ b, E.Z b → ¬ L b) : Mod fx S E a w' := by
 have hk : Keeps E.Z w w' := fun b h => hb b (m.ok.zlt b h) (hz b h)
 refine ⟨m.nt, fun t => RV.keep hk (fun _ h => h) rfl _ _ (m.slots t), m.dfr, ⟨fun i k h => ?_, m.ok.inj, m.ok.apart, fun b h => Nat.lt_of_lt_of_le (m.ok.zlt b h) hsize, fun i hi b h => Nat.lt_of_lt_of_le (m.ok.xlt i hi b h) hsize⟩, ⟨hos.trans m.frame.os, htape.trans m.frame.tape, hout.trans m.frame.output, Nat.le_trans m.frame.size hsize, fun b h1 h2 => ?_⟩, m.mine, m.z, m.roots⟩
 ·exact (m.ok.hold i k h).keep hk (fun _ h => h) rfl (fun b hn => hb _ (m.ok.own_lt (by rw [h]; simp) hn) (hap i (by rw [h]; simp) b hn)) hsize
 ·refine (hb b (Nat.lt_of_lt_of_le h1 m.frame.size) fun h => ?_).trans (m.frame.block b h1 h2)
  rcases hL b h with h | h
  ·omega
  ·exact h2 h
theorem Mod.moreZ {fx : Fx} {S : St} {E : Env} {a : Act} {w : World} (m : Mod fx S E a w) {Zn : Nat → Prop} (hz : ∀ b, Zn b → b < w.heap.size ∧ (∀ i, S.hp i ≠ none → ¬ (E.loc i).own b) ∧ (fx.Z0 b ∨ fx.w0.heap.size ≤ b ∨ fx.L b)) :
  Mod fx S { E with Z := fun b => E.Z b ∨ Zn b } a w := by
 refine ⟨m.nt, fun t => RV.keep (E' := { E with Z := fun b => E.Z b ∨ Zn b }) (fun _ _ => rfl) (fun _ h => .inl h) rfl _ _ (m.slots t), m.dfr, ⟨fun i k h => ?_, m.ok.inj, fun i hi b hn hb => ?_, fun b h => ?_, m.ok.xlt⟩, m.frame, m.mine, fun b h => ?_, m.roots⟩
 ·exact (m.ok.hold i k h).keep (E' := { E with Z := fun b => E.Z b ∨ Zn b }) (fun _ _ => rfl) (fun _ h => .inl h) rfl (fun _ _ => rfl) (Nat.le_refl _)
 ·rcases hb with hb | hb
  ·exact m.ok.apart i hi b hn hb
  ·exact (hz _ hb).2.1 i hi hn
 ·rcases h with h | h
  ·exact m.ok.zlt b h
  ·exact (hz b h).1
 ·rcases h with h | h
  ·exact m.z b h
  ·exact (hz b h).2.2
def St.moves (rt : List Nat) : List (Nat × Nat) → St → St
 | [], S => S
 | (_, k) :: r, S => St.moves rt r (if rt.contains k then S else S.kill k)
theorem Mod.moves {fx : Fx} {a : Act} {w : World} (rt : List Nat) (f : Nat → Loc) : ∀ (pl : List (Nat × Nat)) {S : St} {E : Env}, Mod fx S E a w → (∀ p ∈ pl, (rt.contains p.2 = true ∧ E.loc p.2 = f p.1 ∧ S.hp p.2 = none) ∨ (rt.contains p.2 = false ∧ p.2 ∉ S.rts)) → (pl.map (·.2)).Nodup →
  ∃ E2, Mod fx (St.moves rt pl S) E2 a w ∧ E2.Z = E.Z ∧ (∀ p ∈ pl, E2.loc p.2 = f p.1) ∧ (∀ k, (∀ p ∈ pl, p.2 ≠ k) → E2.loc k = E.loc k) ∧ (∀ i, (St.moves rt pl S).hp i ≠ none → S.hp i ≠ none) ∧ (∀ p ∈ pl, (St.moves rt pl S).hp p.2 = none)
 | [], S, E, m, _, _ => ⟨E, m, rfl, fun p hp => (by cases hp), fun _ _ => rfl, fun _ h => h, fun p hp => (by cases hp)⟩
 | (c, k) :: r, S, E, m, hp, hnd => by
  rw [List.map_cons, List.nodup_cons] at hnd
  have hne : ∀ p ∈ r, p.2 ≠ k := fun p h e => hnd.1 (by rw [← e]; exact List.mem_map.2 ⟨p, h, rfl⟩)
  simp only [St.moves]
  rcases hp (c, k) (.head _) with ⟨h1, h2, h3⟩ | ⟨h1, h2⟩
  ·rw [if_pos h1]
   obtain ⟨E2, m2, g1, g2, g3, g4, g5⟩ := Mod.moves rt f r m (fun p h => hp p (.tail _ h)) hnd.2
   refine ⟨E2, m2, g1, fun p h => ?_, fun k' h => g3 k' (fun p hpr => h p (.tail _ hpr)), g4, fun p h => ?_⟩
   ·rcases List.mem_cons.1 h with rfl | h
    ·rw [g3 k hne]; exact h2
    ·exact g2 p h
   ·rcases List.mem_cons.1 h with rfl | h
    ·cases hk : (St.moves rt r S).hp k with
     | none => rfl
     | some b => exact absurd h3 (g4 k (by rw [hk]; simp))
    ·exact g5 p h
  ·rw [if_neg (by rw [h1]; simp)]
   have mk := m.kill h2 (f c)
   have hat : ∀ i, i ≠ k → (E.at k (f c)).loc i = E.loc i := fun i hi => by simp [Env.at, hi]
   have hat0 : (E.at k (f c)).loc k = f c := by simp [Env.at]
   have hkn : ∀ i, (S.kill k).hp i ≠ none → S.hp i ≠ none ∧ i ≠ k := fun i h => by
    cases hk : (S.kill k).hp i with
    | none => exact absurd hk h
    | some b => obtain ⟨e1, k0, e2, _⟩ := kill_hp hk; exact ⟨by rw [e2]; simp, e1⟩
   obtain ⟨E2, m2, g1, g2, g3, g4, g5⟩ := Mod.moves rt f r mk (fun p h => by
    rcases hp p (.tail _ h) with ⟨q1, q2, q3⟩ | q
    ·refine .inl ⟨q1, by rw [hat _ (hne p h)]; exact q2, ?_⟩
     cases hk : (S.kill k).hp p.2 with
     | none => rfl
     | some b => exact absurd q3 (hkn _ (by rw [hk]; simp)).1
    ·exact .inr q) hnd.2
   refine ⟨E2, m2, g1, fun p h => ?_, fun k' h => ?_, fun i h => (hkn i (g4 i h)).1, fun p h => ?_⟩
   ·rcases List.mem_cons.1 h with rfl | h
    ·rw [g3 k hne]; exact hat0
    ·exact g2 p h
   ·rw [g3 k' (fun p hpr => h p (.tail _ hpr))]
    exact hat _ (fun e => h (c, k) (.head _) e.symm)
   ·rcases List.mem_cons.1 h with rfl | h
    ·cases hk : (St.moves rt r (S.kill k)).hp k with
     | none => rfl
     | some b => exact absurd rfl (hkn k (g4 k (by rw [hk]; simp))).2
    ·exact g5 p h
def St.sets : List (Nat × Blk) → St → St
 | [], S => S
 | (k, b) :: r, S => St.sets r (S.setH k (some b))
theorem Mod.lays {fx : Fx} {E : Env} {a : Act} {w : World} (New : Nat → Prop) : ∀ (bl : List (Nat × Blk)) {S : St}, Mod fx S E a w → (∀ p ∈ bl, New p.1 ∧ Hold E w p.1 p.2) →
  (∀ i, New i → ∀ b, (E.loc i).own b → ¬ E.Z b ∧ (fx.w0.heap.size ≤ b ∨ fx.L b) ∧ b < w.heap.size) →
  (∀ i j, New i → New j ∨ S.hp j ≠ none → i ≠ j → ∀ b, (E.loc i).own b → ¬ (E.loc j).own b) → Mod fx (St.sets bl S) E a w
 | [], _, m, _, _, _ => m
 | (k, b) :: r, S, m, hb, hn, hi => by
  obtain ⟨hk, hold⟩ := hb (k, b) (.head _)
  have get : ∀ i, (S.setH k (some b)).hp i ≠ none → i = k ∨ (i ≠ k ∧ S.hp i ≠ none) := fun i h => by
   simp only [St.setH] at h
   by_cases e : i = k
   ·exact .inl e
   ·rw [if_neg e] at h; exact .inr ⟨e, h⟩
  refine Mod.lays New r (S := S.setH k (some b)) ⟨m.nt, m.slots, m.dfr, ⟨fun i blk h => ?_, fun i j h1 h2 hij b n1 n2 => ?_, fun i h b n => ?_, m.ok.zlt, fun i h b n => ?_⟩, m.frame, fun i h b n => ?_, m.z, m.roots⟩ (fun p h => hb p (.tail _ h)) hn (fun i j h1 h2 => ?_)
  ·simp only [St.setH] at h
   by_cases e : i = k
   ·subst e; rw [if_pos rfl] at h; injection h with h; subst h; exact hold
   ·rw [if_neg e] at h; exact m.ok.hold i blk h
  ·rcases get i h1 with rfl | ⟨e1, q1⟩
   ·rcases get j h2 with rfl | ⟨e2, q2⟩
    ·exact absurd rfl hij
    ·exact hi _ j hk (.inr q2) hij b n1 n2
   ·rcases get j h2 with rfl | ⟨e2, q2⟩
    ·exact hi _ i hk (.inr q1) (fun e => hij e.symm) b n2 n1
    ·exact m.ok.inj i j q1 q2 hij b n1 n2
  ·rcases get i h with rfl | ⟨e1, q1⟩
   ·exact (hn _ hk b n).1
   ·exact m.ok.apart i q1 b n
  ·rcases get i h with rfl | ⟨e1, q1⟩
   ·exact (hn _ hk b (.inr n)).2.2
   ·exact m.ok.xlt i q1 b n
  ·rcases get i h with rfl | ⟨e1, q1⟩
   ·exact (hn _ hk b n).2.1
   ·exact m.mine i q1 b n
  ·rcases h2 with h2 | h2
   ·exact hi i j h1 (.inl h2)
   ·rcases get j h2 with rfl | ⟨_, q⟩
    ·exact hi i _ h1 (.inl hk)
    ·exact hi i j h1 (.inr q)
end Go.Ab
end
section
namespace Go.Ab
open Go.RowKit
theorem nodup_fst {α β : Type} {l : List (α × β)} (h : (l.map (·.1)).Nodup) {a : α} {b c : β} (h1 : (a, b) ∈ l) (h2 : (a, c) ∈ l) : b = c := by
 induction l with
 | nil => cases h1
 | cons p r ih =>
  rw [List.map_cons, List.nodup_cons] at h
  rcases List.mem_cons.1 h1 with e1 | h1
  ·rcases List.mem_cons.1 h2 with e2 | h2
   ·rw [← e2] at e1; injection e1
   ·exact absurd (List.mem_map.2 ⟨_, h2, by rw [← e1]⟩) h.1
  ·rcases List.mem_cons.1 h2 with e2 | h2
   ·exact absurd (List.mem_map.2 ⟨_, h1, by rw [← e2]⟩) h.1
   ·exact ih h.2 h1 h2
def back : List (Nat × Nat) → Nat → Option Nat
 | [], _ => none
 | (a, b) :: r, i => if i = b then some a else back r i
theorem back_mem : ∀ {l : List (Nat × Nat)} {k c : Nat}, (l.map (·.2)).Nodup → (k, c) ∈ l → back l c = some k
 | (a, b) :: r, k, c, hn, h => by
  rw [List.map_cons, List.nodup_cons] at hn
  simp only [back]
  rcases List.mem_cons.1 h with e | h
  ·injection e with e1 e2; subst e1; subst e2; rw [if_pos rfl]
  ·rw [if_neg (fun e => hn.1 (by rw [← show c = b from e]; exact List.mem_map.2 ⟨_, h, rfl⟩))]
   exact back_mem hn.2 h
def Env.lend (E : Env) (lent : List (Nat × Nat)) : Env := ⟨fun c => match back lent c with | some k => E.loc k | none => default, E.Z⟩
structure Back (S : St) (lent : List (Nat × Nat)) (rts rt : List Nat) (r : V) (H1 : Heap) (pl : List (Nat × Nat)) (bl : List (Nat × Blk)) (r' : V) : Prop where
 cs : (pl.map (·.1)).Nodup
 ks : (pl.map (·.2)).Nodup
 here : ∀ p ∈ pl, H1 p.1 ≠ none
 root : ∀ p ∈ pl, (rt.contains p.2 = true ∧ (p.2, p.1) ∈ lent ∧ p.1 ∈ rts) ∨ (rt.contains p.2 = false ∧ p.2 ∉ S.rts)
 blks : ∀ q ∈ bl, ∃ c b, (c, q.1) ∈ pl ∧ H1 c = some b ∧ b.rnm pl = some q.2
 res : r.rnm pl = some r'
def St.after (S : St) (lent : List (Nat × Nat)) (rt : List Nat) (pl : List (Nat × Nat)) (bl : List (Nat × Blk)) (d : Option Nat) (r' : V) : St :=
 (St.sets bl (St.moves rt pl (St.drops lent S))).put d r'
theorem lend_ok {S : St} {E : Env} {w : World} {lent : List (Nat × Nat)} {H0 : Heap} (ok : E.ok S.hp w) (hks : (lent.map (·.1)).Nodup) (hcs : (lent.map (·.2)).Nodup)
  (hlent : ∀ p ∈ lent, ∃ b b', S.hp p.1 = some b ∧ b.rnm lent = some b' ∧ H0 p.2 = some b') (honly : ∀ i, H0 i ≠ none → ∃ p ∈ lent, p.2 = i) :
  (∀ p ∈ lent, (E.lend lent).loc p.2 = E.loc p.1) ∧ (E.lend lent).ok H0 w ∧ (∀ b, lof (E.lend lent) H0 b → ∃ k, S.hp k ≠ none ∧ (∃ c, (k, c) ∈ lent) ∧ (E.loc k).own b) := by
 have hloc : ∀ p ∈ lent, (E.lend lent).loc p.2 = E.loc p.1 := fun p hp => by
  show (match back lent p.2 with | some k => E.loc k | none => default) = _
  rw [back_mem hcs (k := p.1) (c := p.2) hp]
 refine ⟨hloc, ⟨fun c b' h => ?_, fun i j hi hj hij b ni nj => ?_, fun i hi b ni => ?_, ok.zlt, fun i hi b ni => ?_⟩, ?_⟩
 ·obtain ⟨⟨k, c'⟩, hp, rfl⟩ := honly c (by rw [h]; simp)
  obtain ⟨b, b2, h1, h2, h3⟩ := hlent _ hp
  rw [h] at h3; injection h3 with h3; subst h3
  refine Hold.rnm (E := E) (E' := E.lend lent) (ρ := lent) (fun i k hik => ?_) (fun _ h => h) (hloc _ hp) h2 (ok.hold _ _ h1)
  exact hloc (i, k) (lk2_mem hik)
 ·obtain ⟨p, hp, rfl⟩ := honly i hi
  obtain ⟨q, hq, rfl⟩ := honly j hj
  obtain ⟨b1, _, h1, _, _⟩ := hlent _ hp
  obtain ⟨b2, _, h2, _, _⟩ := hlent _ hq
  rw [hloc _ hp] at ni; rw [hloc _ hq] at nj
  refine ok.inj p.1 q.1 (by rw [h1]; simp) (by rw [h2]; simp) (fun e => hij ?_) b ni nj
  have hq' : (p.1, q.2) ∈ lent := by rw [e]; exact hq
  exact nodup_fst hks (a := p.1) hp hq'
 ·obtain ⟨p, hp, rfl⟩ := honly i hi
  obtain ⟨b1, _, h1, _, _⟩ := hlent _ hp
  rw [hloc _ hp] at ni
  exact ok.apart p.1 (by rw [h1]; simp) b ni
 ·obtain ⟨p, hp, rfl⟩ := honly i hi
  obtain ⟨b1, _, h1, _, _⟩ := hlent _ hp
  rw [hloc _ hp] at ni
  exact ok.xlt p.1 (by rw [h1]; simp) b ni
 ·rintro b ⟨i, hi, ni⟩
  obtain ⟨p, hp, rfl⟩ := honly i hi
  obtain ⟨b1, _, h1, _, _⟩ := hlent _ hp
  rw [hloc _ hp] at ni
  exact ⟨p.1, by rw [h1]; simp, ⟨p.2, hp⟩, ni⟩
theorem Mod.after {fx : Fx} {S : St} {E : Env} {a : Act} {w w' : World} (m : Mod fx S E a w) {lent : List (Nat × Nat)} {H0 : Heap} {rts rt : List Nat} (hks : (lent.map (·.1)).Nodup) (hcs : (lent.map (·.2)).Nodup)
  (hlent : ∀ p ∈ lent, ∃ b b', S.hp p.1 = some b ∧ b.rnm lent = some b' ∧ H0 p.2 = some b') (honly : ∀ i, H0 i ≠ none → ∃ p ∈ lent, p.2 = i)
  {E' : Env} {r : V} {H1 : Heap} {v : Value} (hr : RV E' w' r v) (g : GO (E.lend lent) H0 w) (hp : Post (fxOf w (E.lend lent) H0 rts g) E' H1 w')
  {pl : List (Nat × Nat)} {bl : List (Nat × Blk)} {r' : V} (hb : Back S lent rts rt r H1 pl bl r') (d : Option Nat) : Models fx (S.after lent rt pl bl d r') (a.put d v) w' := by
 obtain ⟨hloc, hok, hL⟩ := lend_ok m.ok hks hcs hlent honly
 have f := hp.frame
 have hLf : ∀ b, lof (E.lend lent) H0 b → fx.w0.heap.size ≤ b ∨ fx.L b := fun b h => by
  obtain ⟨k, h1, _, h2⟩ := hL b h
  exact m.mine k h1 b h2
 have hLz : ∀ b, E.Z b → ¬ lof (E.lend lent) H0 b := fun b hz h => by
  obtain ⟨k, h1, _, h2⟩ := hL b h
  exact m.ok.apart k h1 b h2 hz
 have hap : ∀ i, (St.drops lent S).hp i ≠ none → ∀ b, (E.loc i).own b → ¬ lof (E.lend lent) H0 b := fun i hi b hn h => by
  obtain ⟨h1, h2⟩ := drops_hp lent i hi
  obtain ⟨k, g1, ⟨c, g2⟩, g3⟩ := hL _ h
  exact m.ok.inj k i g1 h1 (h2 _ g2) b g3 hn
 have hlt : ∀ i, S.hp i ≠ none → ∀ b, (E.loc i).own b → b < w.heap.size := fun i hi b hn => m.ok.own_lt hi hn
 have m2 := (Mod.drops lent m).move (lof (E.lend lent) H0) f.os f.tape f.output f.size f.block hLf hap hLz
 have m3 := m2.moreZ (Zn := E'.Z) (fun b h => by
  refine ⟨hp.ok.zlt b h, fun i hi hn => ?_, ?_⟩
  ·rcases hp.z _ h with g | g | g
   ·exact m.ok.apart i (drops_hp lent i hi).1 b hn g
   ·have := hlt i (drops_hp lent i hi).1 b hn
    have g : w.heap.size ≤ b := g
    omega
   ·exact hap i hi b hn g
  ·rcases hp.z _ h with g | g | g
   ·exact m.z b g
   ·exact .inr (.inl (Nat.le_trans m.frame.size g))
   ·exact .inr (hLf b g))
 obtain ⟨E2, m4, g1, g2, g3, g4, g5⟩ := Mod.moves rt E'.loc pl m3 (fun p h => by
  rcases hb.root p h with ⟨q1, q2, q3⟩ | ⟨q1, q2⟩
  ·refine .inl ⟨q1, ?_, ?_⟩
   ·have e1 := hp.roots (p.1, (E.lend lent).loc p.1) (List.mem_map.2 ⟨p.1, q3, rfl⟩)
    have e1 : E'.loc p.1 = (E.lend lent).loc p.1 := e1
    rw [e1, hloc _ q2]
   ·cases hk : (St.drops lent S).hp p.2 with
    | none => rfl
    | some b => exact absurd rfl ((drops_hp lent p.2 (by rw [hk]; simp)).2 _ q2)
  ·exact .inr ⟨q1, by rw [drops_rts]; exact q2⟩) hb.ks
 have hZ2 : ∀ b, E'.Z b → E2.Z b := fun b h => by rw [g1]; exact .inr h
 have hl2 : ∀ i k, lk2 pl i = some k → E2.loc k = E'.loc i := fun i k h => g2 (i, k) (lk2_mem h)
 have m5 := Mod.lays (fun i => ∃ p ∈ pl, p.2 = i) bl m4 (fun q hq => by
   obtain ⟨c, b, h1, h2, h3⟩ := hb.blks q hq
   exact ⟨⟨_, h1, rfl⟩, Hold.rnm hl2 hZ2 (g2 _ h1) h3 (hp.ok.hold c b h2)⟩)
  (fun i ⟨p, h1, h2⟩ b hn => by
   subst h2
   rw [g2 p h1] at hn
   have hH := hb.here p h1
   refine ⟨fun hz => ?_, ?_, hp.ok.own_lt hH hn⟩
   ·rw [g1] at hz
    rcases hz with hz | hz
    ·rcases hp.mine _ hH b hn with g | g
     ·have := m.ok.zlt _ hz
      have g : w.heap.size ≤ b := g
      omega
     ·exact hLz _ hz g
    ·exact hp.ok.apart _ hH b hn hz
   ·rcases hp.mine _ hH b hn with g | g
    ·exact .inl (Nat.le_trans m.frame.size g)
    ·exact hLf _ g)
  (fun i j ⟨p, h1, h2⟩ hj hij b ni nj => by
   subst h2
   rw [g2 p h1] at ni
   have hH := hb.here p h1
   have other : ¬ (∃ q ∈ pl, q.2 = j) := by
    rintro ⟨q, h3, rfl⟩
    rw [g2 q h3] at nj
    refine hp.ok.inj p.1 q.1 hH (hb.here q h3) (fun e => hij ?_) b ni nj
    exact nodup_fst hb.cs (a := p.1) (b := p.2) (c := q.2) h1 (by rw [e]; exact h3)
   rcases hj with hj | hj
   ·exact other hj
   ·have e : E2.loc j = E.loc j := g3 j (fun q hq e => other ⟨q, hq, e⟩)
    rw [e] at nj
    have hd := g4 j hj
    rcases hp.mine _ hH b ni with g | g
    ·have := hlt j (drops_hp lent j hd).1 b nj
     have g : w.heap.size ≤ b := g
     omega
    ·exact hap j hd b nj g)
 exact ⟨E2, m5.put d (RV.rnm hl2 hZ2 r r' v hb.res hr)⟩
theorem hlook_mem2 : ∀ {l : List (Nat × Option Blk)} (i : Nat), hlook l i ≠ none → ∃ q ∈ l, q.1 = i
 | [], _, h => absurd rfl h
 | (k, b) :: r, i, h => by
  simp only [hlook] at h
  by_cases e : i = k
  ·exact ⟨(k, b), .head _, e.symm⟩
  ·rw [if_neg e] at h
   obtain ⟨q, h1, h2⟩ := hlook_mem2 i h
   exact ⟨q, .tail _ h1, h2⟩
theorem Chain.callMG {P : Program} {ops : Array Oper} {o : Oper} {l : List Oper} {S : St} {Q' : St → Prop} {f : FuncId} {full args : List V} {rts : List Nat} {h0 : List (Nat × Option Blk)} {Q : V → Heap → Prop} (lent : List (Nat × Nat)) (rt : List Nat)
  (hw : wantedV ops S o = some true) (hto : CallsTo P S o f full)
  (hargs : rnmL lent full = some args) (hks : (lent.map (·.1)).Nodup) (hcs : (lent.map (·.2)).Nodup)
  (hlent : ∀ p ∈ lent, ∃ b b', S.hp p.1 = some b ∧ b.rnm lent = some b' ∧ hlook h0 p.2 = some b') (honly : ∀ q ∈ h0, ∃ p ∈ lent, p.2 = q.1)
  (hF : Ctr P f args (hlook h0) rts Q)
  (hrest : ∀ r H1, Q r H1 → ∃ pl bl r', Back S lent rts rt r H1 pl bl r' ∧ Chain false P ops l (S.after lent rt pl bl o.dst r') Q') : Chain false P ops (o :: l) S Q' := by
 have honly' : ∀ i, hlook h0 i ≠ none → ∃ p ∈ lent, p.2 = i := by
  intro i hi
  obtain ⟨q, hq, e⟩ := hlook_mem2 i hi
  obtain ⟨p, hp, e2⟩ := honly q hq
  exact ⟨p, hp, e2.trans e⟩
 intro fx a w Q'' ⟨E, m⟩ hq
 have hw' := wantedV_sound m hw
 unfold wpList
 rw [if_pos hw']
 refine .inl ?_
 obtain ⟨vals, hall, hrun⟩ := hto E w a.eval m.ev
 unfold Oper.wp
 rw [hrun w]
 obtain ⟨hloc, hok, hL⟩ := lend_ok m.ok hks hcs hlent honly'
 have hvs := RVs.rnm (E' := E.lend lent) (fun i k h => hloc (i, k) (lk2_mem h)) (fun _ h => h) _ _ _ hargs hall
 have hgo : GO (E.lend lent) (hlook h0) w := ⟨m.go.gw, fun b h => by obtain ⟨k, h1, _, h2⟩ := hL b h; exact m.go.own b ⟨k, h1, h2⟩⟩
 refine (hF w (E.lend lent) _ hgo hok hvs).mono ?_
 rintro e w' ⟨v, E', r, H1, rfl, hQ, hr, hp⟩
 obtain ⟨pl, bl, r', hb, hc⟩ := hrest r H1 hQ
 have := Mod.after m hks hcs hlent honly' hr hgo hp hb o.dst
 exact hc fx _ w' Q'' this hq
end Go.Ab
end
section
namespace Go.Ab
open Go.RowKit
theorem mem_back : ∀ {l : List (Nat × Nat)} {k c : Nat}, back l c = some k → (k, c) ∈ l
 | (a, b) :: r, k, c, h => by
  simp only [back] at h
  split at h
  ·rename_i e
   injection h with h; subst h; subst e
   exact .head _
  ·exact .tail _ (mem_back h)
theorem tlook_mem : ∀ {l : List (Nat × V)} (i : Nat), tlook l i = .junk ∨ (i, tlook l i) ∈ l
 | [], _ => .inl rfl
 | (k, v) :: r, i => by
  simp only [tlook]
  by_cases e : i = k
  ·rw [if_pos e, e]; exact .inr (.head _)
  ·rw [if_neg e]; exact (tlook_mem i).imp (fun h => h) (fun h => .tail _ h)
theorem hlook_mem3 : ∀ {l : List (Nat × Option Blk)} (i : Nat), hlook l i = none ∨ (i, hlook l i) ∈ l
 | [], _ => .inl rfl
 | (k, v) :: r, i => by
  simp only [hlook]
  by_cases e : i = k
  ·rw [if_pos e, e]; exact .inr (.head _)
  ·rw [if_neg e]; exact (hlook_mem3 i).imp (fun h => h) (fun h => .tail _ h)
theorem Sub.names {nt : Nat} {l l' : List (Nat × V)} {h h' : List (Nat × Option Blk)} {rts : List Nat} (ρ : List (Nat × Nat)) (h1 : (ρ.map (·.1)).Nodup) (h2 : (ρ.map (·.2)).Nodup) (hr : ∀ r ∈ rts, back ρ r = some r)
  (hl : ∀ p ∈ l', (tlook l p.1).rnm ρ = some p.2) (hh : ∀ p ∈ h', ((back ρ p.1).bind fun i => (hlook h i).bind (Blk.rnm ρ)) = p.2) : Sub (mk nt rts l h) (mk nt rts l' h') := .of fun fx a w E m => by
 have hloc : ∀ i k, (i, k) ∈ ρ → (⟨fun k => match back ρ k with | some i => E.loc i | none => E.loc k, E.Z⟩ : Env).loc k = E.loc i := fun i k hp => by
  show (match back ρ k with | some i => E.loc i | none => E.loc k) = _
  rw [back_mem h2 hp]
 generalize hE : (⟨fun k => match back ρ k with | some i => E.loc i | none => E.loc k, E.Z⟩ : Env) = E' at hloc
 have hZ : E'.Z = E.Z := by rw [← hE]
 have hlk : ∀ i k, lk2 ρ i = some k → E'.loc k = E.loc i := fun i k h => hloc i k (lk2_mem h)
 have hz : ∀ b, E.Z b → E'.Z b := fun b h => by rw [hZ]; exact h
 have get : ∀ k, hlook h' k ≠ none → ∃ i b b', (i, k) ∈ ρ ∧ hlook h i = some b ∧ b.rnm ρ = some b' ∧ hlook h' k = some b' := fun k hk => by
  rcases hlook_mem3 (l := h') k with e | e
  ·exact absurd e hk
  ·have := hh _ e
   cases hb : back ρ k with
   | none => rw [hb] at this; exact absurd this.symm hk
   | some i =>
    rw [hb] at this
    have this : (hlook h i).bind (Blk.rnm ρ) = hlook h' k := this
    cases hi : hlook h i with
    | none => rw [hi] at this; exact absurd this.symm hk
    | some b =>
     rw [hi] at this
     have this : b.rnm ρ = hlook h' k := this
     cases hb' : b.rnm ρ with
     | none => rw [hb'] at this; exact absurd this.symm hk
     | some b' => exact ⟨i, b, b', mem_back hb, hi, hb', by rw [← this, hb']⟩
 refine ⟨E', m.nt, fun t => ?_, m.dfr, ⟨fun k b hk => ?_, fun k k' hk hk' hne b n n' => ?_, fun k hk b n => ?_, fun b h => m.ok.zlt b (by rw [hZ] at h; exact h), fun k hk b n => ?_⟩, m.frame, fun k hk b n => ?_, fun b h => m.z b (by rw [hZ] at h; exact h), fun r hr' => ?_⟩
 ·show RV E' w (tlook l' t) _
  rcases tlook_mem (l := l') t with e | e
  ·rw [e]; trivial
  ·exact RV.rnm hlk hz _ _ _ (hl _ e) (m.slots t)
 ·have hk : hlook h' k = some b := hk
  obtain ⟨i, b0, b', g1, g2, g3, g4⟩ := get k (by rw [hk]; simp)
  rw [g4] at hk; injection hk with hk; subst hk
  exact Hold.rnm hlk hz (hloc i k g1) g3 (m.ok.hold i b0 g2)
 ·obtain ⟨i, b0, _, g1, g2, _, _⟩ := get k hk
  obtain ⟨j, b1, _, q1, q2, _, _⟩ := get k' hk'
  rw [hloc i k g1] at n; rw [hloc j k' q1] at n'
  refine m.ok.inj i j ?_ ?_ (fun e => hne ?_) b n n'
  ·show hlook h i ≠ none
   rw [g2]; simp
  ·show hlook h j ≠ none
   rw [q2]; simp
  ·subst e; exact nodup_fst h1 g1 q1
 ·obtain ⟨i, b0, _, g1, g2, _, _⟩ := get k hk
  rw [hloc i k g1] at n
  rw [hZ]
  refine m.ok.apart i ?_ b n
  show hlook h i ≠ none
  rw [g2]; simp
 ·obtain ⟨i, b0, _, g1, g2, _, _⟩ := get k hk
  rw [hloc i k g1] at n
  refine m.ok.xlt i ?_ b n
  show hlook h i ≠ none
  rw [g2]; simp
 ·obtain ⟨i, b0, _, g1, g2, _, _⟩ := get k hk
  rw [hloc i k g1] at n
  refine m.mine i ?_ b n
  show hlook h i ≠ none
  rw [g2]; simp
 ·obtain ⟨q1, q2⟩ := m.roots r hr'
  refine ⟨q1, ?_⟩
  rw [hloc _ _ (mem_back (hr r.1 q1))]; exact q2
theorem Sub.cut {nt : Nat} {rts : List Nat} {l : List (Nat × V)} {h : List (Nat × Option Blk)} (id k : Nat) {T n : Nat} {es : List (List D)} (hes : hlook h id = some (.arr T n es)) : Sub (mk nt rts l h) (mk nt rts l (hupd h id (some (.arr T n (es.take k))))) := .of fun fx a w E m => by
 refine ⟨E, m.nt, m.slots, m.dfr, ⟨fun i b hi => ?_, fun i j hi hj => m.ok.inj i j ?_ ?_, fun i hi => m.ok.apart i ?_, m.ok.zlt, fun i hi => m.ok.xlt i ?_⟩, m.frame, fun i hi => m.mine i ?_, m.z, m.roots⟩
 ·have hi : hlook (hupd h id (some (.arr T n (es.take k)))) i = some b := hi
  rw [hlook_hupd] at hi
  by_cases e : i = id
  ·rw [if_pos e] at hi
   injection hi with hi; subst hi; subst e
   obtain ⟨g1, g2, g3, g4, g5⟩ := m.ok.hold i _ hes
   refine ⟨g1, g2, fun e he => g3 e (List.mem_of_mem_take he), g4, ?_⟩
   rcases g5 with ⟨g6, g7⟩ | ⟨hn, c, flat, k1, k2, k3, k4, k5, k6⟩
   ·exact .inl ⟨g6, by rw [g7]; simp⟩
   ·refine .inr ⟨hn, c, flat.take (k * n), k1, by rw [List.length_take]; omega, k3, k4, RDe_take k k5 g3, ?_⟩
    rw [List.length_take, ← k6, List.take_take]
    congr 1
    rcases Nat.le_total k es.length with h | h
    ·rw [Nat.min_eq_left h, Nat.min_eq_left (Nat.mul_le_mul_right n h)]
    ·rw [Nat.min_eq_right h, Nat.min_eq_right (Nat.mul_le_mul_right n h)]
  ·rw [if_neg e] at hi
   exact m.ok.hold i b hi
 all_goals
  have other : ∀ i, hlook (hupd h id (some (.arr T n (es.take k)))) i ≠ none → hlook h i ≠ none := fun i hi => by
   rw [hlook_hupd] at hi
   by_cases e : i = id
   ·rw [e, hes]; simp
   ·rw [if_neg e] at hi; exact hi
 ·exact other i hi
 ·exact other j hj
 ·exact other i hi
 ·exact other i hi
 ·exact other i hi
attribute [simp] V.rnm rnmL Blk.rnm lk2 back St.drops St.moves St.sets St.after
end Go.Ab
end
section
namespace Go.Ab
open Go.RowKit
theorem Chain.appIn {P : Program} {ops : Array Oper} {o : Oper} {l : List Oper} {S : St} {Q : St → Prop} {c : Call} {s x : Operand} {t e : TypeId} {tt te : TI} {id len : Nat} {es ys : List (List D)} (hw : wantedV ops S o = some true) (ho : o.op = .call c)
  (hc : c.callee = .builtin .append) (hca : c.args = #[s, x]) (hct : c.argTypes = #[t, t]) (hT : tyOf P t = some tt) (hd : tt.desc = .slice e) (he : tyOf P e = some te)
  (hs : S.ev s = .ref id 0 len) (hH : S.hp id = some (.arr e te.size es)) (hx : srcV S.hp (S.ev x) = some ys) (hall : ∀ y ∈ ys, y.length = te.size) (hle : len + ys.length ≤ es.length) (hpos : 0 < ys.length)
  (h : Chain false P ops l ((S.setH id (some (.arr e te.size (es.take len ++ (ys ++ es.drop (len + ys.length)))))).put o.dst (.ref id 0 (len + ys.length))) Q) : Chain false P ops (o :: l) S Q := by
 intro fx a w Q' ⟨E, md⟩ hq
 unfold wpList
 rw [if_pos (wantedV_sound md hw)]
 refine .inl ?_
 have hsv := md.ev s
 rw [hs] at hsv
 have hxv := md.ev x
 obtain ⟨g1, g2, g3, g4, g5⟩ := md.ok.hold _ _ hH
 have hne : es ≠ [] := fun e => by subst e; simp at hle; rw [hle.2] at hpos; simp at hpos
 rcases g5 with ⟨_, g6⟩ | ⟨hn, cc, flat, k1, k2, k3, k4, k5, k6⟩
 ·exact absurd g6 hne
 rcases hsv with ⟨q1, _⟩ | ⟨_, q2, aa, q3, q4⟩
 ·rw [hn] at q1; cases q1
 have ha := q4 (.inl rfl)
 rw [g2] at ha
 simp only [Nat.zero_mul, Nat.add_zero] at ha
 subst ha
 obtain ⟨hu, i0, hi0, hi1, hi2, hi3⟩ := tyOf_spec he
 have htu : P.underlying t = some (.slice e) := by rw [(tyOf_spec hT).1, hd]
 rcases srcV_sound md.ok hxv hx te.size with ⟨_, r1⟩ | ⟨ax, cap, news, r1, r2, r3⟩
 ·rw [r1] at hpos; simp at hpos
 have hnl : news.length = ys.length * te.size := RDe_length r2 hall
 have hfl : flat.length = es.length * te.size := RDe_length k5 g3
 have hcs : es.length * te.size ≤ cc.size := by rw [k4]; exact Nat.mul_le_mul_right _ k2
 have hend : len * te.size + news.length ≤ es.length * te.size := by rw [hnl, ← Nat.add_mul]; exact Nat.mul_le_mul_right _ hle
 have hrun := run_append_room_cells (P := P) (w := w) t o.type e i0 htu hi0 (E.loc id).b 0 len (E.loc id).cap ax ys.length cap news (by rw [hi1]; exact hnl) r3 (RDe_cell r2) (by omega)
  (fun j hj => by
   rw [hi1, Nat.zero_add]
   have : len * te.size + j < cc.size := by omega
   simp [World.cell?, k1, this])
  (fun j hj => by simp [World.frozen?, k1])
 rw [hi1, Nat.zero_add] at hrun
 obtain ⟨c', z1, z2⟩ := heap_setCells (E.loc id).b news (len * te.size) w cc k1 (by omega)
 have hgb := grownBy_setCells (E.loc id).b news (len * te.size) w
 have hk : Keeps E.Z w (w.setCells (E.loc id).b (len * te.size) news) := Keeps.grown md.ok hgb fun b hb => by injection hb with hb; rw [← hb]; exact md.ok.apart1 id (by rw [hH]; simp) hn
 have hlen2 : (es.take len ++ (ys ++ es.drop (len + ys.length))).length = es.length := by
  simp only [List.length_append, List.length_take, List.length_drop]; omega
 have hrest : cc.toList = flat ++ cc.toList.drop (es.length * te.size) := by
  conv => lhs; rw [← List.take_append_drop (es.length * te.size) cc.toList, k6]
 have hf2 : (flat.take (len * te.size) ++ (news ++ flat.drop (len * te.size + news.length))).length = es.length * te.size := by
  simp only [List.length_append, List.length_take, List.length_drop]; omega
 have hc' : c'.toList = (flat.take (len * te.size) ++ (news ++ flat.drop (len * te.size + news.length))) ++ cc.toList.drop (es.length * te.size) := by
  rw [z2]
  conv => lhs; rw [hrest]
  rw [List.take_append_of_le_length (by omega), List.drop_append_of_le_length (by omega)]
  simp only [List.append_assoc]
 have m' := md.wr hH hn hgb (blk := .arr e te.size (es.take len ++ (ys ++ es.drop (len + ys.length)))) ⟨g1, g2, fun x hx => ?_, g4, .inr ⟨hn, c', flat.take (len * te.size) ++ (news ++ flat.drop (len * te.size + news.length)), z1, by rw [hlen2]; exact k2, k3, ?_, ?_, ?_⟩⟩
 ·unfold Oper.wp execOp
  simp only [ho, resolve, hc, hca, hct, invoke, builtin, Sem.run_bind, Sem.run_pure, Result.andThen_ok, List.map_toArray, List.map_cons, List.map_nil, q3, r1, hrun, Oper.upon, Nat.sub_zero]
  exact h fx _ _ Q' ⟨E, m'.put o.dst (.inr ⟨hn, by omega, 0, by simp, fun _ => by rw [g2]; simp⟩)⟩ hq
 ·rcases List.mem_append.1 hx with hx | hx
  ·exact g3 x (List.mem_of_mem_take hx)
  ·rcases List.mem_append.1 hx with hx | hx
   ·exact hall x hx
   ·exact g3 x (List.mem_of_mem_drop hx)
 ·have : c'.toList.length = cc.toList.length := by
   have e1 : cc.toList.length = cc.size := Array.length_toList
   have e2 : (Array.mk es).size = es.length := rfl
   rw [hc', List.length_append, hf2, List.length_drop, e1]; omega
  rw [← k4]; simpa using this
 ·refine RDe.keep hk (fun _ h => h) _ _ (RDe_append (RDe_take len k5 g3) (RDe_append r2 ?_))
  have := RDe_drop (len + ys.length) k5 g3
  rw [Nat.add_mul, ← hnl] at this
  exact this
 ·rw [hlen2, hc', List.take_append_of_le_length (by rw [hf2]; exact Nat.le_refl _), List.take_of_length_le (by rw [hf2]; exact Nat.le_refl _)]
end Go.Ab
end
section
namespace Go.Ab
open Go.RowKit
theorem Chain.clear {P : Program} {ops : Array Oper} {o : Oper} {l : List Oper} {S : St} {Q : St → Prop} {c : Call} {s : Operand} {t e : TypeId} {tt te : TI} {id off len : Nat} {es : List (List D)} (hw : wantedV ops S o = some true) (ho : o.op = .call c)
  (hc : c.callee = .builtin .clear) (hca : c.args = #[s]) (hct : c.argTypes = #[t]) (hT : tyOf P t = some tt) (hd : tt.desc = .slice e) (he : tyOf P e = some te) (hzs : te.zero.cells.size = te.size) (hzp : te.zero.cells.toList.all plain = true)
  (hs : S.ev s = .ref id off len) (hH : S.hp id = some (.arr e te.size es)) (hle : off + len ≤ es.length) (hpos : 0 < len)
  (h : Chain false P ops l ((S.setH id (some (.arr e te.size (es.take off ++ (List.replicate len (te.zero.cells.toList.map D.lit) ++ es.drop (off + len)))))).put o.dst (.tup [])) Q) : Chain false P ops (o :: l) S Q := by
 intro fx a w Q' ⟨E, md⟩ hq
 unfold wpList
 rw [if_pos (wantedV_sound md hw)]
 refine .inl ?_
 have hsv := md.ev s
 rw [hs] at hsv
 obtain ⟨g1, g2, g3, g4, g5⟩ := md.ok.hold _ _ hH
 have hne : es ≠ [] := fun e => by subst e; simp at hle; omega
 rcases g5 with ⟨_, g6⟩ | ⟨hn, cc, flat, k1, k2, k3, k4, k5, k6⟩
 ·exact absurd g6 hne
 rcases hsv with ⟨q1, _⟩ | ⟨_, q2, aa, q3, q4⟩
 ·rw [hn] at q1; cases q1
 have ha := q4 (.inr (by omega))
 rw [g2, g1, Nat.zero_add] at ha
 subst ha
 obtain ⟨hu, i0, hi0, hi1, hi2, hi3⟩ := tyOf_spec he
 have htu : P.underlying t = some (.slice e) := by rw [(tyOf_spec hT).1, hd]
 have hzl : (Builtin.zeroCells te.zero.cells len).toList.length = len * te.size := by simp [Builtin.zeroCells, hzs]
 have hfl : flat.length = es.length * te.size := RDe_length k5 g3
 have hcs : es.length * te.size ≤ cc.size := by rw [k4]; exact Nat.mul_le_mul_right _ k2
 have hend : off * te.size + len * te.size ≤ es.length * te.size := by rw [← Nat.add_mul]; exact Nat.mul_le_mul_right _ hle
 have hrz := RDe_reps (w := w) (Z := E.Z) (z := te.zero.cells) hzp len
 have hcell : ∀ v ∈ (Builtin.zeroCells te.zero.cells len).toList, v.oneCell' = true := RDe_cell hrz
 have hrun := Rp.run_clear_row (P := P) w t o.type e te.zero (E.loc id).b (off * te.size) len ((E.loc id).cap - off) cc htu (fun w => run_zero he w) (by omega) k1 (by have := hzl; rw [Array.length_toList] at this; omega) hcell
 have hgb := Rp.grownBy_setRow w (E.loc id).b (Rp.splice cc.toList (off * te.size) (Builtin.zeroCells te.zero.cells len).toList).toArray
 have z1 := setRow_heap w (E.loc id).b cc (Rp.splice cc.toList (off * te.size) (Builtin.zeroCells te.zero.cells len).toList).toArray e (0, 0) k1
 generalize hzs2 : (Builtin.zeroCells te.zero.cells len).toList = zs at hzl hcell hrun hgb z1
 have hrz : RDe w E.Z (List.replicate len (te.zero.cells.toList.map D.lit)) zs := by rw [← hzs2]; exact hrz
 have hk : Keeps E.Z w (w.setRow (E.loc id).b (Rp.splice cc.toList (off * te.size) zs).toArray) := Keeps.grown md.ok hgb fun b hb => by injection hb with hb; rw [← hb]; exact md.ok.apart1 id (by rw [hH]; simp) hn
 have hlen2 : (es.take off ++ (List.replicate len (te.zero.cells.toList.map D.lit) ++ es.drop (off + len))).length = es.length := by
  simp only [List.length_append, List.length_take, List.length_drop, List.length_replicate]; omega
 have e1 : cc.toList.length = cc.size := Array.length_toList
 have hrest : cc.toList = flat ++ cc.toList.drop (es.length * te.size) := by
  conv => lhs; rw [← List.take_append_drop (es.length * te.size) cc.toList, k6]
 have hf2 : (flat.take (off * te.size) ++ (zs ++ flat.drop (off * te.size + zs.length))).length = es.length * te.size := by
  simp only [List.length_append, List.length_take, List.length_drop]; omega
 have hc' : Rp.splice cc.toList (off * te.size) zs = (flat.take (off * te.size) ++ (zs ++ flat.drop (off * te.size + zs.length))) ++ cc.toList.drop (es.length * te.size) := by
  unfold Rp.splice
  conv => lhs; rw [hrest]
  rw [List.take_append_of_le_length (by omega), List.drop_append_of_le_length (by omega)]
  simp only [List.append_assoc]
 have m' := md.wr hH hn hgb (blk := .arr e te.size (es.take off ++ (List.replicate len (te.zero.cells.toList.map D.lit) ++ es.drop (off + len)))) ⟨g1, g2, fun x hx => ?_, g4, .inr ⟨hn, _, flat.take (off * te.size) ++ (zs ++ flat.drop (off * te.size + zs.length)), z1, by rw [hlen2]; exact k2, k3, ?_, ?_, ?_⟩⟩
 ·unfold Oper.wp execOp
  simp only [ho, resolve, hc, hca, hct, invoke, builtin, Sem.run_bind, Sem.run_pure, Result.andThen_ok, List.map_toArray, List.map_cons, List.map_nil, q3, hrun, Oper.upon]
  exact h fx _ _ Q' ⟨E, m'.put o.dst ⟨[], rfl, rfl⟩⟩ hq
 ·rcases List.mem_append.1 hx with hx | hx
  ·exact g3 x (List.mem_of_mem_take hx)
  ·rcases List.mem_append.1 hx with hx | hx
   ·rw [(List.mem_replicate.1 hx).2]; simp [hzs]
   ·exact g3 x (List.mem_of_mem_drop hx)
 ·rw [List.size_toArray, hc', List.length_append, hf2, List.length_drop, e1, ← k4]; omega
 ·refine RDe.keep hk (fun _ h => h) _ _ (RDe_append (RDe_take off k5 g3) (RDe_append hrz ?_))
  have := RDe_drop (off + len) k5 g3
  rw [Nat.add_mul, ← hzl] at this
  exact this
 ·rw [hlen2]
  show List.take (es.length * te.size) (Rp.splice cc.toList (off * te.size) zs) = _
  rw [hc', List.take_append_of_le_length (by rw [hf2]; exact Nat.le_refl _), List.take_of_length_le (by rw [hf2]; exact Nat.le_refl _)]
end Go.Ab
end
section
namespace Go.Ab
open Go.RowKit
theorem bounds_over {P : Program} {S : St} {E : Env} {w w' : World} {ρ : Operand → Value} (hev : ∀ x, RV E w (S.ev x) (ρ x)) {len kn cap : Nat} (hlc : len ≤ kn) (hkc : kn ≤ cap) {lo hi : Option Operand} {h l : Nat}
  (hh : bnd (hi.map S.ev) len kn = some h) (hl : bnd (lo.map S.ev) 0 h = some l) : (Instr.sliceBounds true len cap (lo.map ρ) (hi.map ρ) none).run P w' = .ok (l, h, cap) w' ∧ l ≤ h ∧ h ≤ kn := by
 have e1 : h ≤ kn := by
  cases hi with
  | none => rw [bnd_none hh]; exact hlc
  | some o => exact (bnd_some (P := P) (w' := w') (hev o) hh hkc .index).2
 have e2 : l ≤ h := by
  cases lo with
  | none => rw [bnd_none hl]; exact Nat.zero_le _
  | some o => exact (bnd_some (P := P) (w' := w') (hev o) hl (Nat.le_refl _) .index).2
 refine ⟨?_, e2, e1⟩
 cases hi with
 | none =>
  cases lo with
  | none => rw [bnd_none hh, bnd_none hl]; simp [Instr.sliceBounds]
  | some o =>
   have h3 := fun code => bnd_some (P := P) (w' := w') (hev o) hl (Nat.le_refl _) code
   rw [bnd_none hh] at h3 ⊢
   simp [Instr.sliceBounds, (h3 _).1]
 | some p =>
  have h1 := fun code => bnd_some (P := P) (w' := w') (hev p) hh hkc code
  cases lo with
  | none => rw [bnd_none hl]; simp [Instr.sliceBounds, (h1 _).1]
  | some o =>
   have h3 := fun code => bnd_some (P := P) (w' := w') (hev o) hl (Nat.le_refl _) code
   simp [Instr.sliceBounds, (h1 _).1, (h3 _).1]
theorem Chain.pureP {q : Bool} {P : Program} {ops : Array Oper} {o : Oper} {l : List Oper} {S : St} {Q : St → Prop} (hw : wantedV ops S o = some true) {v : V} (hp : Pure P o.op S v) (h : Chain q P ops l (S.put o.dst v) Q) : Chain q P ops (o :: l) S Q := by
 cases q with
 | false =>
  intro fx a w Q' ⟨E, m⟩ hq
  have hw' := wantedV_sound m hw
  obtain ⟨x, hx, hrun⟩ := hp E w a.eval o rfl m.ok m.ev
  unfold wpList
  rw [if_pos hw']
  refine .inl ?_
  unfold Oper.wp
  rw [hrun w (Below.refl _ _)]
  exact h fx _ w Q' ⟨E, m.put o.dst hx⟩ hq
 | true =>
  intro fx a w Q' ⟨E, m⟩ hq
  have hw' := wantedV_sound m hw
  obtain ⟨x, hx, hrun⟩ := hp E w a.eval o rfl m.ok m.ev
  unfold wpQuiet
  rw [if_pos hw']
  refine ⟨x, fun w' hg => ?_, h fx _ w Q' ⟨E, m.put o.dst hx⟩ hq⟩
  unfold Oper.quietAt
  rw [hrun w' hg]
  exact ⟨rfl, rfl⟩
theorem ref_row {E : Env} {w : World} {id off len : Nat} {e n : Nat} {es : List (List D)} {v : Value} (hx : RV E w (.ref id off len) v) (hold : Hold E w id (.arr e n es)) (hlen : off + len ≤ es.length) (hne : off < es.length) :
  ∃ cap, v = .slice (some ⟨(E.loc id).b, off * n, none⟩) len (cap - off) ∧ cap = (E.loc id).cap ∧ es.length ≤ cap ∧ (E.loc id).nil = false ∧ (E.loc id).n = n ∧ (E.loc id).o = 0 := by
 obtain ⟨g1, g2, g3, g4, g5⟩ := hold
 rcases g5 with ⟨_, g6⟩ | ⟨hn, cc, flat, k1, k2, k3, k4, k5, k6⟩
 ·subst g6; simp at hne
 rcases hx with ⟨q1, _⟩ | ⟨_, q2, aa, q3, q4⟩
 ·rw [hn] at q1; cases q1
 have ha := q4 (.inr (by omega))
 rw [g2, g1, Nat.zero_add] at ha
 subst ha
 exact ⟨_, q3, rfl, k2, hn, g1, g2⟩
theorem Chain.sliceX {P : Program} {ops : Array Oper} {o : Oper} {l : List Oper} {S : St} {Q : St → Prop} {q : Bool} {T e : TypeId} {x : Operand} {lo hi : Option Operand} {ti te : TI} {id off len hq lq : Nat} {es : List (List D)} (hw : wantedV ops S o = some true) (ho : o.op = .slice T x lo hi none)
  (hT : tyOf P T = some ti) (hd : ti.desc = .slice e) (he : tyOf P e = some te) (hs : S.ev x = .ref id off len) (hH : S.hp id = some (.arr e te.size es)) (hlen : off + len ≤ es.length) (hne : off < es.length)
  (hh : bnd (hi.map S.ev) len (es.length - off) = some hq) (hl : bnd (lo.map S.ev) 0 hq = some lq)
  (h : Chain q P ops l (S.put o.dst (.ref id (off + lq) (hq - lq))) Q) : Chain q P ops (o :: l) S Q := by
 refine Chain.pureP hw ?_ h
 rw [ho]
 intro E w ρ oo hoo ok hev
 unfold execOp
 rw [hoo]
 have hx := hev x
 rw [hs] at hx
 obtain ⟨cap, h1, rfl, h2, h3, h4, h5⟩ := ref_row hx (ok.hold _ _ hH) hlen hne
 obtain ⟨_, b2, b3⟩ := bounds_over (P := P) (w' := w) hev (by omega) (show es.length - off ≤ (E.loc id).cap - off by omega) hh hl
 refine ⟨.slice (if (E.loc id).cap - off = lq then (some ⟨(E.loc id).b, off * te.size, none⟩ : Option Addr) else (some ⟨(E.loc id).b, off * te.size, none⟩ : Option Addr).map (·.add (lq * te.size))) (hq - lq) ((E.loc id).cap - off - lq), .inr ⟨h3, by omega, ?_⟩, fun w' _ => ?_⟩
 ·by_cases hc : (E.loc id).cap - off = lq
  ·refine ⟨off * te.size, by rw [if_pos hc]; congr 1; omega, fun hlt => ?_⟩
   omega
  ·refine ⟨off * te.size + lq * te.size, ?_, fun hlt => ?_⟩
   ·rw [if_neg hc]
    simp only [Option.map_some, add_addr]
    congr 1; omega
   ·rw [h4, h5, Nat.zero_add, Nat.add_mul]
 ·have u1 := run_und hT w'
  rw [hd] at u1
  have hb := (bounds_over (P := P) (w' := w') hev (by omega) (show es.length - off ≤ (E.loc id).cap - off by omega) hh hl).1
  simp [Instr.sliceAt, Instr.slice, u1, h1, hb, run_sizeOf he w']
theorem Chain.slice3 {P : Program} {ops : Array Oper} {o : Oper} {l : List Oper} {S : St} {Q : St → Prop} {q : Bool} {T e : TypeId} {x hi mx : Operand} {lo : Option Operand} {ti te : TI} {id off len mq hq lq : Nat} (hw : wantedV ops S o = some true) (ho : o.op = .slice T x lo (some hi) (some mx))
  (hT : tyOf P T = some ti) (hd : ti.desc = .slice e) (he : tyOf P e = some te) (hs : S.ev x = .ref id off len) (hm : bnd (some (S.ev mx)) 0 len = some mq)
  (hh : bnd (some (S.ev hi)) 0 mq = some hq) (hl : bnd (lo.map S.ev) 0 hq = some lq)
  (h : Chain q P ops l (S.put o.dst .junk) Q) : Chain q P ops (o :: l) S Q := by
 refine Chain.pureP hw ?_ h
 rw [ho]
 intro E w ρ oo hoo ok hev
 unfold execOp
 rw [hoo]
 have hx := hev x
 rw [hs] at hx
 have key : ∃ A cap, ρ x = .slice A len cap ∧ len ≤ cap := by
  rcases hx with ⟨_, _, h3, h4⟩ | ⟨_, h2, a, h4, _⟩
  ·exact ⟨none, 0, by rw [h4, h3], by omega⟩
  ·exact ⟨_, _, h4, by omega⟩
 obtain ⟨A, cap, hp, hlc⟩ := key
 refine ⟨.slice (if mq = lq then A else A.map (·.add (lq * te.size))) (hq - lq) (mq - lq), trivial, fun w' _ => ?_⟩
 have u1 := run_und hT w'
 rw [hd] at u1
 have hb := (bounds_some (P := P) (w' := w') (b := true) hev hlc hm hh hl).1
 simp [Instr.sliceAt, Instr.slice, u1, hp, hb, run_sizeOf he w']
end Go.Ab
end
section
namespace Go.Ab
open Go.RowKit
theorem pure_eqA {P : Program} {S : St} {T : TypeId} {x y : Operand} {ty : TypeId} {cs ds : List V} {xs ys : List Value} {b : Bool} (neq : Bool) (hx : S.ev x = .agg cs) (hy : S.ev y = .agg ds) (hcs : litsOf cs = some xs) (hds : litsOf ds = some ys)
  (hm : P.eqGuardType P.depth T = false) (he : ∀ w, (Op.equalIn 10000 T (.agg xs.toArray) (.agg ys.toArray)).run P w = .ok b w) : Pure P (.binOp (if neq then .neq else .eql) T x y ty) S (.d (.lit (.bool (if neq then !b else b)))) := by
 intro E w ρ oo hoo ok hev
 unfold execOp
 rw [hoo]
 have h1 := hev x
 rw [hx] at h1
 obtain ⟨vs, h1, _, h2⟩ := h1
 have h3 := hev y
 rw [hy] at h3
 obtain ⟨us, h3, _, h4⟩ := h3
 have e1 := litsOf_sound h2 hcs
 have e2 := litsOf_sound h4 hds
 subst e1; subst e2
 refine ⟨_, ⟨rfl, rfl⟩, fun w' _ => ?_⟩
 cases neq <;>
 ·simp only [h1, h3]
  simp [run_eqGuard_agg _ _ _ _ _ _ _ hm, run_eql_struct, run_neq_struct, he]
end Go.Ab
end
section
namespace Go.Ab
open Go.RowKit
theorem runN_drop {ty : TypeId → Option TI} {ops : Array Oper} : ∀ (n : Nat) {l l' : List Oper} {S S' : St}, runN ty ops n l S = some (l', S') → l' = l.drop n
 | 0, l, l', S, S', h => by simp only [runN, Option.some.injEq, Prod.mk.injEq] at h; exact h.1.symm
 | n + 1, [], l', S, S', h => by simp [runN] at h
 | n + 1, o :: l, l', S, S', h => by
  simp only [runN] at h
  split at h
  ·split at h
   ·exact runN_drop n h
   ·cases h
  ·exact runN_drop n h
  ·cases h
theorem still_run {P : Program} {ops : Array Oper} {fx : Fx} {w : World} {Lq : Act → Prop} : ∀ (n : Nat) {l l' : List Oper} {S S' : St}, runN (tyOf P) ops n l S = some (l', S') → ∀ a, Models fx S a w → (∀ a', Models fx S' a' w → Lq a') → wpStill P ops w Lq (l.take n) a
 | 0, l, l', S, S', h, a, m, hq => by
  simp only [runN, Option.some.injEq, Prod.mk.injEq] at h
  obtain ⟨_, rfl⟩ := h
  rw [List.take_zero]
  exact hq a m
 | n + 1, [], l', S, S', h, a, m, hq => by simp [runN] at h
 | n + 1, o :: l, l', S, S', h, a, ⟨E, m⟩, hq => by
  rw [List.take_succ_cons]
  simp only [runN] at h
  unfold wpStill
  split at h
  ·rename_i hw
   rw [if_pos (wantedV_sound m hw)]
   split at h
   ·rename_i v hv
    obtain ⟨x, hx, hrun⟩ := pureV_sound hv E w a.eval o rfl m.ok m.ev
    unfold Oper.still
    rw [hrun w (Below.refl _ _)]
    exact ⟨rfl, still_run n h _ ⟨E, m.put o.dst hx⟩ hq⟩
   ·cases h
  ·rename_i hw
   rw [if_neg (by rw [wantedV_sound m hw]; simp)]
   exact still_run n h _ ⟨E, m.put o.dst ⟨[], rfl, rfl⟩⟩ hq
  ·cases h
theorem rd_region_tail {ro : Option Nat} {k : Nat} {P : Program} {id : Nat} {Q : Act → World → Prop} {a : Act} {w : World} {l : List Oper} (n : Nat) (hd : noDefer l = true) (hm : P.follows .mixedOrders = true) (hB : Region.lexTailB .any l.toArray n = true)
  (h : wpStill P l.toArray { w with drawn := w.drawn + 1 } (fun a' => wpList P l.toArray (NQ Q) (l.drop n) a' { w with drawn := w.drawn + 1 }) (l.take n) a) : (Code.region id l.toArray true).wpIn (Rd ro) k P (NQ Q) a w := by
 simp only [Region.lexTailB, Bool.and_eq_true, decide_eq_true_eq] at hB
 obtain ⟨⟨⟨⟨hsel, hn⟩, hs⟩, hc⟩, hlex⟩ := hB
 have hn' : n < l.length := by simpa using hn
 have htl : (l.take n).length = n := by simp; omega
 have hdl : (l.drop n).length = l.toArray.size - n := by simp
 have hrf : ∀ j, (Array.replicate l.toArray.size false).getD j false = false := fun j => by
  rw [Array.getD_eq_getD_getElem?, Array.getElem?_replicate]; split <;> rfl
 have inv0 : HeadInv .any l.toArray n (Array.replicate l.toArray.size false) :=
  ⟨by simp, fun j oj _ hl => (by rw [hrf] at hl; cases hl), fun t _ ht => getD_in (by simpa using ht) (hrf _)⟩
 have H := wpAnyL_lex (md := .any) (g := l.toArray.size - n) hsel hs hc hn (l.take n) 0 _ a (fun j hj => by
  have hj' : j < n := by rw [htl] at hj; exact hj
  simp [hj']) (by simpa using htl) inv0 (by rw [htl]; exact hlex) h
 refine rd_region_any hd hm ?_
 have := wpAny_of_head (Q' := NQ Q) (g := l.toArray.size - n) (fun listed a' hL => by
  have := wpAny_of_seq (md := .any) (Q' := NQ Q) (l.drop n) n listed a' { w with drawn := w.drawn + 1 } (fun j => by simp [List.getElem?_drop]) (by rw [hdl]; exact hL.1) hL.2
  rwa [hdl] at this) _ _ _ H
 rw [htl, show n + (l.toArray.size - n) = l.toArray.size by omega] at this
 exact this
theorem AW.regionT {P : Program} {S : St} {Q : Exit → St → Prop} {id : Nat} {l : List Oper} (n : Nat) (hm : P.follows .mixedOrders = true) (hB : Region.lexTailB .any l.toArray n = true)
  (h : ∀ K : List Oper → St → Prop, (∀ l' S', Chain false P l.toArray l' S' (Q .normal) → K l' S') → thenK K (Ab.runN (tyOf P) l.toArray n l S)) (hd : noDefer l = true := by rfl) : AW P (.region id l.toArray true) S Q := fun fx a w ⟨E, m⟩ => by
 have h := h _ (fun _ _ h => h)
 cases hr : Ab.runN (tyOf P) l.toArray n l S with
 | none => rw [hr] at h; exact h.elim
 | some p =>
  obtain ⟨l', S'⟩ := p
  rw [hr] at h
  have e := runN_drop n hr
  subst e
  refine Code.wpIn_mono (fun e a w h => by obtain ⟨rfl, h⟩ := h; exact h) (rd_region_tail (Q := Aft fx Q .normal) n hd hm hB (still_run n hr a ⟨E, m.grow ⟨rfl, rfl, rfl, Nat.le_refl _, fun _ _ => rfl⟩⟩ fun a' m' => ?_))
  exact h fx a' _ _ m' (fun S' a' w' hq m' => ⟨rfl, Aft.one hq m'⟩)
theorem AW.seqT {P : Program} {S : St} {Q : Exit → St → Prop} {id : Nat} {l : List Oper} {y : Code} (n : Nat) (hm : P.follows .mixedOrders = true) (hB : Region.lexTailB .any l.toArray n = true)
  (h : ∀ K : List Oper → St → Prop, (∀ l' S', Chain false P l.toArray l' S' (fun S' => AW P y S' Q) → K l' S') → thenK K (Ab.runN (tyOf P) l.toArray n l S)) (hd : noDefer l = true := by rfl) : AW P (.seq (.region id l.toArray true) y) S Q := .seq (.regionT n hm hB h hd)
end Go.Ab
end
section
namespace Go.Ab
open Go.RowKit
theorem Chain.appNo {P : Program} {ops : Array Oper} {o : Oper} {l : List Oper} {S : St} {Q : St → Prop} {c : Call} {s x : Operand} {t e : TypeId} {tt te : TI} {id len : Nat} {es : List (List D)} (hw : wantedV ops S o = some true) (ho : o.op = .call c)
  (hc : c.callee = .builtin .append) (hca : c.args = #[s, x]) (hct : c.argTypes = #[t, t]) (hT : tyOf P t = some tt) (hd : tt.desc = .slice e) (he : tyOf P e = some te)
  (hs : S.ev s = .ref id 0 len) (hH : S.hp id = some (.arr e te.size es)) (hx : srcV S.hp (S.ev x) = some []) (hlen : len ≤ es.length) (hne : 0 < es.length)
  (h : Chain false P ops l (S.put o.dst (.ref id 0 len)) Q) : Chain false P ops (o :: l) S Q := by
 intro fx a w Q' ⟨E, md⟩ hq
 unfold wpList
 rw [if_pos (wantedV_sound md hw)]
 refine .inl ?_
 have hsv := md.ev s
 rw [hs] at hsv
 have hsv0 := hsv
 obtain ⟨cap, h1, hcap, h2, h3, h4, h5⟩ := ref_row hsv (md.ok.hold _ _ hH) (by omega) (by omega)
 obtain ⟨hu, i0, hi0, hi1, hi2, hi3⟩ := tyOf_spec he
 have htu : P.underlying t = some (.slice e) := by rw [(tyOf_spec hT).1, hd]
 have run : (Builtin.append_ #[t, t] o.type #[a.eval s, a.eval x]).run P w = .ok (a.eval s) w := by
  rcases srcV_sound md.ok (md.ev x) hx te.size with ⟨r1, _⟩ | ⟨ax, cp, news, r1, r2, r3⟩
  ·rw [h1, r1]
   simp [Builtin.append_, run_underlying htu, sizeOf, typeInfo, hi0, Builtin.lenOf, Builtin.firstCells, loadCells, hcap, show len ≤ (E.loc id).cap by omega]
   rfl
  ·have hn : news = [] := List.eq_nil_of_length_eq_zero (by have := RDe_length (n := te.size) r2 (fun e he => by cases he); simpa using this)
   subst hn
   have := run_append_room_cells (P := P) (w := w) t o.type e i0 htu hi0 (E.loc id).b (0 * te.size) len (cap - 0) ax 0 cp [] (by simp) r3 (fun u hu => by cases hu) (by omega) (fun j hj => by cases hj) (fun j hj => by cases hj)
   rw [h1, r1]
   exact this
 unfold Oper.wp execOp
 simp only [ho, resolve, hc, hca, hct, invoke, builtin, Sem.run_bind, Sem.run_pure, Result.andThen_ok, List.map_toArray, List.map_cons, List.map_nil, run, Oper.upon]
 exact h fx _ _ Q' ⟨E, md.put o.dst hsv0⟩ hq
end Go.Ab
end
section
namespace Go.Ab
open Go.RowKit
inductive Out (β ρ : Type) where
 | go (b : β)
 | ret (r : ρ)
def iterN {σ ρ : Type} (step : σ → Option (σ ⊕ ρ)) : Nat → σ → Option ρ
 | 0, _ => none
 | n + 1, s => match step s with
  | some (.inl s') => iterN step n s'
  | some (.inr r) => some r
  | none => none
theorem iterN_succ {σ ρ : Type} (step : σ → Option (σ ⊕ ρ)) (n : Nat) (s : σ) : iterN step (n + 1) s = match step s with
  | some (.inl s') => iterN step n s'
  | some (.inr r) => some r
  | none => none := rfl
def bindO {β ρ : Type} (d : Option (Out β ρ)) (k : β → Option ρ) : Option ρ :=
 match d with
 | some (.go b) => k b
 | some (.ret r) => some r
 | none => none
@[simp] theorem bindO_go {β ρ : Type} (b : β) (k : β → Option ρ) : bindO (some (.go b)) k = k b := rfl
@[simp] theorem bindO_ret {β ρ : Type} (r : ρ) (k : β → Option ρ) : bindO (some (.ret r)) k = some r := rfl
@[simp] theorem bindO_none {β ρ : Type} (k : β → Option ρ) : bindO none k = none := rfl
def letv {α β : Type} (x : α) (k : α → β) : β := k x
def okI64 (n : Int) : Prop := -9223372036854775808 ≤ n ∧ n ≤ 9223372036854775807
instance (n : Int) : Decidable (okI64 n) := inferInstanceAs (Decidable (_ ∧ _))
def chkI (n : Int) : Option Int := if okI64 n then some n else none
def remI (a b : Int) : Option Int := if b = 0 then none else some (a.tmod b)
def idx {α : Type} (xs : List α) (i : Int) : Option α := if 0 ≤ i then xs[i.toNat]? else none
def appL {α : Type} (b : Nat) (xs ys : List α) : Option (List α) := if (xs.length + ys.length) * b ≤ Rp.reach then some (xs ++ ys) else none
def natI (i : Int) (n : Nat) : Option Nat := if 0 ≤ i ∧ i ≤ n then some i.toNat else none
def setI {α : Type} (xs : List α) (i : Int) (x : α) : List α := xs.set i.toNat x
theorem bsome {α β : Type} {d : Option α} {k : α → Option β} {r : β} (h : d.bind k = some r) : ∃ a, d = some a ∧ k a = some r := Option.bind_eq_some_iff.1 h
theorem lsome {α β : Type} {x : α} {k : α → Option β} {r : β} (h : letv x k = some r) : ∃ a, x = a ∧ k a = some r := ⟨x, rfl, h⟩
theorem isome {β : Type} {p : Prop} [Decidable p] {x y : Option β} {r : β} (h : (if p then x else y) = some r) : (p ∧ x = some r) ∨ (¬ p ∧ y = some r) := by
 by_cases hp : p
 ·rw [if_pos hp] at h; exact .inl ⟨hp, h⟩
 ·rw [if_neg hp] at h; exact .inr ⟨hp, h⟩
theorem gsome {β : Type} {p : Prop} [Decidable p] {x : Option β} {r : β} (h : (if p then x else none) = some r) : p ∧ x = some r := by
 rcases isome h with h | ⟨_, h⟩
 ·exact h
 ·cases h
theorem wrap_ok {n : Int} (h : okI64 n) : IntKind.i64.wrap n = n := by
 obtain ⟨h1, h2⟩ := h
 simp only [IntKind.wrap, IntKind.signed, IntKind.bits]
 simp
 omega
theorem chkI_some {n m : Int} (h : chkI n = some m) : IntKind.i64.wrap n = m := by
 obtain ⟨h1, h2⟩ := gsome h
 injection h2 with h2
 rw [wrap_ok h1, h2]
theorem remI_some {a b m : Int} (h : remI a b = some m) : b ≠ 0 ∧ a.tmod b = m := by
 rcases isome h with ⟨_, h⟩ | ⟨h1, h⟩
 ·cases h
 ·injection h with h; exact ⟨h1, h⟩
theorem idx_some {α : Type} {xs : List α} {i : Int} {x : α} (h : idx xs i = some x) : ∃ k, i.toNat = k ∧ xs[k]? = some x ∧ 0 ≤ i ∧ i < xs.length := by
 obtain ⟨h1, h2⟩ := gsome h
 obtain ⟨h3, _⟩ := List.getElem?_eq_some_iff.1 h2
 exact ⟨_, rfl, h2, h1, by omega⟩
theorem idx_some2 {α : Type} {xs : List α} {i : Int} {x : α} {k : Nat} (h : idx xs i = some x) (hk : i.toNat = k) : xs[k]? = some x ∧ 0 ≤ i ∧ i < xs.length := by
 obtain ⟨k', rfl, h2, h3, h4⟩ := idx_some h
 subst hk
 exact ⟨h2, h3, h4⟩
theorem appL_some {α : Type} {b : Nat} {xs ys zs : List α} (h : appL b xs ys = some zs) : (xs.length + ys.length) * b ≤ Rp.reach ∧ xs ++ ys = zs := by
 obtain ⟨h1, h2⟩ := gsome h
 injection h2 with h2
 exact ⟨h1, h2⟩
theorem natI_some {i : Int} {n m : Nat} (h : natI i n = some m) : i = m ∧ m ≤ n := by
 obtain ⟨h1, h2⟩ := gsome h
 injection h2 with h2
 omega
section
variable {P : Program} {S : St} {σ β ρ : Type}
def PostI (I : σ → St) (r : ρ) (Q : Exit → St → Prop) : σ ⊕ ρ → Exit → St → Prop
 | .inl s, e, S => e = .normal ∧ Sub S (I s)
 | .inr r', e, S => e ≠ .normal ∧ (r' = r → Q e S)
def PostJ (J : β → St) (r : ρ) (Q : Exit → St → Prop) : Out β ρ → Exit → St → Prop
 | .go b, e, S => e = .normal ∧ Sub S (J b)
 | .ret r', e, S => e ≠ .normal ∧ (r' = r → Q e S)
def PostN (J : β → St) : β → Exit → St → Prop := fun b e S => e = .normal ∧ Sub S (J b)
theorem PostI.next {I : σ → St} {r : ρ} {Q : Exit → St → Prop} {s : σ} (h : Sub S (I s)) : PostI I r Q (.inl s) .normal S := ⟨rfl, h⟩
theorem PostI.out {I : σ → St} {r r' : ρ} {Q : Exit → St → Prop} {e : Exit} (he : e ≠ .normal) (h : r' = r → Q e S) : PostI I r Q (.inr r') e S := ⟨he, h⟩
theorem PostJ.next {J : β → St} {r : ρ} {Q : Exit → St → Prop} {b : β} (h : Sub S (J b)) : PostJ J r Q (.go b) .normal S := ⟨rfl, h⟩
theorem PostJ.out {J : β → St} {r r' : ρ} {Q : Exit → St → Prop} {e : Exit} (he : e ≠ .normal) (h : r' = r → Q e S) : PostJ J r Q (.ret r') e S := ⟨he, h⟩
theorem PostN.next {J : β → St} {b : β} (h : Sub S (J b)) : PostN J b .normal S := ⟨rfl, h⟩
theorem AW.iter {c : Code} {step : σ → Option (σ ⊕ ρ)} {n : Nat} {s0 : σ} {r : ρ} {Q : Exit → St → Prop} (I : σ → St) (h : iterN step n s0 = some r) (hs : Sub S (I s0))
  (round : ∀ s x, step s = some x → AW P c (I s) (PostI I r Q x)) : AW P (.loop c) S Q := by
 refine AW.loop (fun m S0 => ∃ s, iterN step m s = some r ∧ S0 = I s) hs ⟨s0, h, rfl⟩ ?_
 rintro m S0 ⟨s, hm, rfl⟩
 cases m with
 | zero => cases hm
 | succ m =>
  rw [iterN_succ] at hm
  cases hx : step s with
  | none => rw [hx] at hm; cases hm
  | some x =>
   rw [hx] at hm
   refine (round s x hx).mono fun e S' hp => ?_
   cases x with
   | inl s' =>
    obtain ⟨rfl, hp⟩ := hp
    exact ⟨m, _, Nat.lt_succ_self _, hp, s', hm, rfl⟩
   | inr r' =>
    injection hm with hm
    obtain ⟨he, hp⟩ := hp
    have hp := hp hm
    cases e with
    | normal => exact absurd rfl he
    | exit id => exact hp
    | goto l => exact hp
    | ret => exact hp
    | panic ch => exact hp
    | outgrown => exact hp
theorem AW.seqJ {x y : Code} {d : Option (Out β ρ)} {k : β → Option ρ} {r : ρ} {Q : Exit → St → Prop} (J : β → St) (h : bindO d k = some r) (h1 : ∀ o, d = some o → AW P x S (PostJ J r Q o))
  (h2 : ∀ b, k b = some r → AW P y (J b) Q) : AW P (.seq x y) S Q := by
 cases hd : d with
 | none => rw [hd] at h; cases h
 | some o =>
  rw [hd] at h
  refine AW.seq ((h1 o hd).mono fun e S' hp => ?_)
  cases o with
  | go b =>
   obtain ⟨rfl, hp⟩ := hp
   exact .sub hp (h2 b h)
  | ret r' =>
   injection h with h
   obtain ⟨he, hp⟩ := hp
   have hp := hp h
   cases e with
   | normal => exact absurd rfl he
   | exit id => exact hp
   | goto l => exact hp
   | ret => exact hp
   | panic ch => exact hp
   | outgrown => exact hp
theorem AW.seqN {x y : Code} {d : Option β} {k : β → Option ρ} {r : ρ} {Q : Exit → St → Prop} (J : β → St) (h : d.bind k = some r) (h1 : ∀ o, d = some o → AW P x S (PostN J o))
  (h2 : ∀ b, k b = some r → AW P y (J b) Q) : AW P (.seq x y) S Q := by
 obtain ⟨b, hd, hk⟩ := bsome h
 refine AW.seq ((h1 b hd).mono fun e S' hp => ?_)
 obtain ⟨rfl, hp⟩ := hp
 exact .sub hp (h2 b hk)
end
def FunC (P : Program) (f : FuncId) (args : List V) (v : V) : Prop := v.closed = true ∧ Fun P f args (fun r k => r = v ∧ k = none)
def FinC (P : Program) (fn : Func) (v : V) (e : Exit) (S : St) : Prop := (e = .normal ∨ e = .ret) ∧ v.closed = true ∧ outV (tyOf P) fn.results.toList S = some v
theorem FinC.ret {P : Program} {fn : Func} {v : V} {S : St} (h1 : v.closed = true) (h2 : outV (tyOf P) fn.results.toList S = some v) : FinC P fn v .ret S := ⟨.inr rfl, h1, h2⟩
theorem FunC.fin {P : Program} {f : FuncId} {fn : Func} {c : Code} {args : List V} {v : V} (hv : v.closed = true) (hf : P.funcs[f]? = some fn) (hb : fn.body = some c) (hle : args.length ≤ fn.ntmps)
  (h : AW P c (mk fn.ntmps [] (enterL args 0) []) (FinC P fn v)) : FunC P f args v :=
 ⟨hv, Fun.fin hf hb hle (h.mono fun _ _ ⟨h1, h2, h3⟩ => ⟨h1, v, h3, .inl ⟨h2, rfl, rfl⟩⟩)⟩
mutual
theorem closed_ren {d : Nat} : ∀ (c : V), c.closed = true → c.ren d = c
 | .d _, _ => rfl
 | .dx _, _ => rfl
 | .ref .., h => by cases h
 | .ptr .., h => by cases h
 | .mref _, h => by cases h
 | .agg cs, h => by rw [V.ren, closedL_ren cs h]
 | .tup cs, h => by rw [V.ren, closedL_ren cs h]
 | .fn f cs, h => by rw [V.ren, closedL_ren cs h]
 | .junk, h => by cases h
 | .hole, h => by cases h
theorem closedL_ren {d : Nat} : ∀ (cs : List V), closedL cs = true → renL d cs = cs
 | [], _ => rfl
 | c :: cs, h => by
  simp only [closedL, Bool.and_eq_true] at h
  rw [renL, closed_ren c h.1, closedL_ren cs h.2]
end
theorem Chain.callC {P : Program} {ops : Array Oper} {o : Oper} {l : List Oper} {S : St} {Q' : St → Prop} {c : Call} {d : Nat} {f : FuncId} {caps args : List V} {v : V} (hF : FunC P f args v) (hw : wantedV ops S o = some true) (ho : o.op = .call c) (hd : o.dst = some d)
  (hcal : calleeV S c = some (f, caps)) (hargs : mapO (viewV S.hp) (c.args.toList.map S.ev ++ caps) = some args) (hent : Rp.Enters P f) (hid : S.rts.contains d = false)
  (hflat : (c.args.toList.map S.ev ++ caps = args ∧ closedL args = true) ∨ v.flat = true)
  (hrest : Chain false P ops l (((S.kill d).setH d none).put (some d) v) Q') : Chain false P ops (o :: l) S Q' := by
 refine Chain.call hw ho hd hcal hargs hent hF.2 hid (hflat.imp (fun h => h) fun h r k hq => ?_) fun r k hq => ?_
 ·obtain ⟨rfl, rfl⟩ := hq
  exact ⟨h, fun blk hb => by cases hb⟩
 ·obtain ⟨rfl, rfl⟩ := hq
  unfold St.got
  rw [closed_ren _ hF.1]
  exact hrest
theorem Chain.callL {q : Bool} {P : Program} {ops : Array Oper} {o : Oper} {l : List Oper} {S : St} {Q' : St → Prop} {c : Call} {d : Nat} {f : FuncId} {caps args : List V} {r : V} {x : Value} (hF : FunC P f args r) (hw : wantedV ops S o = some true) (ho : o.op = .call c) (hd : o.dst = some d)
  (hcal : calleeV S c = some (f, caps)) (hargs : mapO (viewV S.hp) (c.args.toList.map S.ev ++ caps) = some args) (hent : Rp.Enters P f) (hx : exactV r = some x)
  (hrest : Chain q P ops l (S.put (some d) r) Q') : Chain q P ops (o :: l) S Q' :=
 Chain.callX hw ho hd hcal hargs hent (hF.2.mono fun _ _ h => h.1) hx hrest
def frzR (id : Nat) (es : List (List D)) (i off len : Nat) : V := if i = id then (if off + len ≤ es.length then .d (.sl ((es.drop off).take len)) else .junk) else .ref i off len
def V.frz1 (id : Nat) (es : List (List D)) : V → V
 | .ref i off len => frzR id es i off len
 | v => v
def V.frz (id : Nat) (es : List (List D)) : V → V
 | .ref i off len => frzR id es i off len
 | .agg cs => if (cs.map (V.frz1 id es)).all V.cell = true then .agg (cs.map (V.frz1 id es)) else .junk
 | .tup cs => .tup (cs.map (V.frz1 id es))
 | .fn f cs => .fn f (cs.map (V.frz1 id es))
 | v => v
def Blk.frz (id : Nat) (es : List (List D)) : Blk → Option Blk
 | .box cs => if (cs.map (V.frz1 id es)).all V.cell = true then some (.box (cs.map (V.frz1 id es))) else none
 | b => some b
def frzL (id : Nat) (es : List (List D)) : List (Nat × V) → List (Nat × V)
 | [] => []
 | (k, v) :: r => (k, v.frz id es) :: frzL id es r
def frzH (id : Nat) (es : List (List D)) : List (Nat × Option Blk) → List (Nat × Option Blk)
 | [] => []
 | (k, b) :: r => (k, if k = id then none else b.bind (Blk.frz id es)) :: frzH id es r
theorem look_frzL (id : Nat) (es : List (List D)) : ∀ (l : List (Nat × V)) (i : Nat), tlook (frzL id es l) i = (tlook l i).frz id es
 | [], _ => rfl
 | (k, v) :: r, i => by
  show (if i = k then v.frz id es else tlook (frzL id es r) i) = _
  rw [look_frzL id es r i]
  show _ = (if i = k then v else tlook r i).frz id es
  split <;> rfl
theorem hlook_frzH (id : Nat) (es : List (List D)) : ∀ (l : List (Nat × Option Blk)) (i : Nat), hlook (frzH id es l) i = if i = id then none else (hlook l i).bind (Blk.frz id es)
 | [], i => by simp [frzH, hlook]
 | (k, b) :: r, i => by
  show (if i = k then (if k = id then none else b.bind (Blk.frz id es)) else hlook (frzH id es r) i) = _
  rw [hlook_frzH id es r i]
  show _ = if i = id then none else (if i = k then b else hlook r i).bind (Blk.frz id es)
  by_cases h : i = k
  ·subst h; simp
  ·simp [h]
theorem RV.frz1 {E : Env} {w : World} {id : Nat} {T n : Nat} {es : List (List D)} (hold : Hold E w id (.arr T n es)) {E' : Env} (hl : E'.loc = E.loc) (hz : ∀ b, E.Z b → E'.Z b) (hb : (E.loc id).nil = false → E'.Z (E.loc id).b) :
  ∀ (c : V) (v : Value), RV E w c v → RV E' w (c.frz1 id es) v := by
 intro c v h
 have keep : RV E' w c v := RV.keep (fun _ _ => rfl) hz hl c v h
 cases c with
 | ref i off len =>
  show RV E' w (frzR id es i off len) v
  unfold frzR
  split
  ·rename_i hi
   subst hi
   split
   ·rename_i hle
    obtain ⟨g1, g2, g3, g4, g5⟩ := hold
    have hlen : ((es.drop off).take len).length = len := by rw [List.length_take, List.length_drop]; omega
    rcases h with ⟨h1, h2, h3, rfl⟩ | ⟨h1, h2, a, rfl, h4⟩
    ·subst h3
     exact ⟨none, 0, by rw [hlen], by omega, Nat.zero_le _, fun _ => rfl, fun h => absurd (by simp) h⟩
    ·rcases g5 with ⟨g6, _⟩ | ⟨_, c, flat, k1, k2, k3, k4, k5, k6⟩
     ·rw [h1] at g6; cases g6
     ·refine ⟨_, _, by rw [hlen], by omega, by omega, (fun h => by cases h), fun hne => ?_⟩
      by_cases hcc : off = 0 ∨ off < (E.loc i).cap
      ·have ha := h4 hcc
       rw [g2, g1, Nat.zero_add] at ha
       refine ⟨_, _, n, (flat.drop (off * n)).take (len * n), rfl, hb h1, fun e he => g3 e (List.mem_of_mem_drop (List.mem_of_mem_take he)), RDe.keep (fun _ _ => rfl) hz _ _ (RDe_take len (RDe_drop off k5 g3) (fun e he => g3 e (List.mem_of_mem_drop he))), ?_⟩
       have := rangeAt_take (rangeAt_drop (arr_range k1 ⟨_, k6⟩) (off * n)) (len * n)
       rw [Nat.zero_add] at this
       rw [ha]; exact this
      ·have h0 : len = 0 := by omega
       subst h0
       exact absurd (by simp) hne
   ·trivial
  ·exact keep
 | d x => exact keep
 | ptr id i off => exact keep
 | mref id => exact keep
 | agg cs => exact keep
 | tup cs => exact keep
 | fn f caps => exact keep
 | dx es => exact keep
 | hole => exact keep
 | junk => trivial
theorem RVs.frz {E E' : Env} {w : World} {g : V → V} (hg : ∀ c v, RV E w c v → RV E' w (g c) v) : ∀ {cs : List V} {vs : List Value}, RVs E w cs vs → RVs E' w (cs.map g) vs
 | [], _, h => h
 | _ :: _, _, ⟨v, r, h, h1, h2⟩ => ⟨v, r, h, hg _ _ h1, RVs.frz hg h2⟩
theorem RV.frz {E : Env} {w : World} {id : Nat} {T n : Nat} {es : List (List D)} (hold : Hold E w id (.arr T n es)) {E' : Env} (hl : E'.loc = E.loc) (hz : ∀ b, E.Z b → E'.Z b) (hb : (E.loc id).nil = false → E'.Z (E.loc id).b) :
  ∀ (c : V) (v : Value), RV E w c v → RV E' w (c.frz id es) v := by
 intro c v h
 have f1 := RV.frz1 hold hl hz hb
 cases c with
 | ref i off len => exact f1 _ _ h
 | agg cs =>
  show RV E' w (if _ then _ else _) v
  split
  ·rename_i hall
   obtain ⟨vs, h1, h2, h3⟩ := h
   exact ⟨vs, h1, List.all_eq_true.1 hall, RVs.frz f1 h3⟩
  ·trivial
 | tup cs =>
  obtain ⟨vs, h1, h3⟩ := h
  exact ⟨vs, h1, RVs.frz f1 h3⟩
 | fn f cs =>
  obtain ⟨vs, h1, h3⟩ := h
  exact ⟨vs, h1, RVs.frz f1 h3⟩
 | d x => exact f1 _ _ h
 | ptr id i off => exact f1 _ _ h
 | mref id => exact f1 _ _ h
 | dx es => exact f1 _ _ h
 | hole => exact f1 _ _ h
 | junk => trivial
theorem Sub.freeze {nt : Nat} {rts : List Nat} {l : List (Nat × V)} {h : List (Nat × Option Blk)} (id : Nat) {T n : Nat} {es : List (List D)} (hes : hlook h id = some (.arr T n es)) : Sub (mk nt rts l h) (mk nt rts (frzL id es l) (frzH id es h)) := .of fun fx a w E m => by
 have hold := m.ok.hold id _ hes
 have hz : ∀ b, E.Z b → (E.Z b ∨ ((E.loc id).nil = false ∧ b = (E.loc id).b)) := fun _ h => .inl h
 have hne : (mk nt rts l h).hp id ≠ none := by rw [show (mk nt rts l h).hp id = _ from hes]; simp
 have fr : ∀ c v, RV E w c v → RV { E with Z := fun b => E.Z b ∨ ((E.loc id).nil = false ∧ b = (E.loc id).b) } w (c.frz id es) v := fun c v hc => RV.frz (E' := { E with Z := fun b => E.Z b ∨ ((E.loc id).nil = false ∧ b = (E.loc id).b) }) hold rfl hz (fun hn => .inr ⟨hn, rfl⟩) c v hc
 have fr1 : ∀ c v, RV E w c v → RV { E with Z := fun b => E.Z b ∨ ((E.loc id).nil = false ∧ b = (E.loc id).b) } w (c.frz1 id es) v := fun c v hc => RV.frz1 (E' := { E with Z := fun b => E.Z b ∨ ((E.loc id).nil = false ∧ b = (E.loc id).b) }) hold rfl hz (fun hn => .inr ⟨hn, rfl⟩) c v hc
 have get : ∀ i, hlook (frzH id es h) i ≠ none → i ≠ id ∧ hlook h i ≠ none := fun i hi => by
  rw [hlook_frzH] at hi
  by_cases e : i = id
  ·rw [if_pos e] at hi; exact absurd rfl hi
  ·rw [if_neg e] at hi
   refine ⟨e, fun e2 => ?_⟩
   rw [e2] at hi; exact hi rfl
 refine ⟨{ E with Z := fun b => E.Z b ∨ ((E.loc id).nil = false ∧ b = (E.loc id).b) }, m.nt, fun t => ?_, m.dfr, ⟨fun i b hi => ?_, fun i j hi hj => m.ok.inj i j (get i hi).2 (get j hj).2, fun i hi b hn hb => ?_, fun b hb => ?_, fun i hi => m.ok.xlt i (get i hi).2⟩, m.frame, fun i hi => m.mine i (get i hi).2, fun b hb => ?_, m.roots⟩
 ·have := fr _ _ (m.slots t)
  show RV _ w (tlook (frzL id es l) t) _
  rw [look_frzL]
  exact this
 ·have hi' : hlook (frzH id es h) i = some b := hi
  rw [hlook_frzH] at hi'
  by_cases e : i = id
  ·rw [if_pos e] at hi'; cases hi'
  ·rw [if_neg e] at hi'
   cases hb : hlook h i with
   | none => rw [hb] at hi'; cases hi'
   | some b0 =>
    rw [hb] at hi'
    have hh := m.ok.hold i b0 hb
    cases b0 with
    | box cs =>
     have hi' : (if (cs.map (V.frz1 id es)).all V.cell = true then some (Blk.box (cs.map (V.frz1 id es))) else none) = some b := hi'
     split at hi'
     ·rename_i hall
      injection hi' with hi'
      subst hi'
      obtain ⟨hn, h1, vs, h2, h3, h4, h5⟩ := hh
      exact ⟨hn, List.all_eq_true.1 hall, vs, RVs.frz fr1 h2, h3, h4, h5⟩
     ·cases hi'
    | arr T n es =>
     injection hi' with hi'
     subst hi'
     exact hh.keep (E' := { E with Z := fun b => E.Z b ∨ ((E.loc id).nil = false ∧ b = (E.loc id).b) }) (fun _ _ => rfl) hz rfl (fun _ _ => rfl) (Nat.le_refl _)
    | mp kd l =>
     injection hi' with hi'
     subst hi'
     exact hh.keep (E' := { E with Z := fun b => E.Z b ∨ ((E.loc id).nil = false ∧ b = (E.loc id).b) }) (fun _ _ => rfl) hz rfl (fun _ _ => rfl) (Nat.le_refl _)
    | nest T n sh es fo =>
     injection hi' with hi'
     subst hi'
     exact hh.keep (E' := { E with Z := fun b => E.Z b ∨ ((E.loc id).nil = false ∧ b = (E.loc id).b) }) (fun _ _ => rfl) hz rfl (fun _ _ => rfl) (Nat.le_refl _)
    | hid p =>
     injection hi' with hi'
     subst hi'
     exact hh.keep (E' := { E with Z := fun b => E.Z b ∨ ((E.loc id).nil = false ∧ b = (E.loc id).b) }) (fun _ _ => rfl) hz rfl (fun _ _ => rfl) (Nat.le_refl _)
 ·obtain ⟨hne2, hi2⟩ := get i hi
  rcases hb with hb | ⟨hn2, hb⟩
  ·exact m.ok.apart i hi2 b hn hb
  ·exact m.ok.inj i id hi2 hne hne2 b hn (.inl ⟨hn2, hb.symm⟩)
 ·rcases hb with hb | ⟨hn2, hb⟩
  ·exact m.ok.zlt b hb
  ·rw [hb]; exact hold.block_lt hn2
 ·rcases hb with hb | ⟨hn2, hb⟩
  ·exact m.z b hb
  ·rw [hb]
   rcases m.mine1 id hne hn2 with h | h
   ·exact .inr (.inl h)
   ·exact .inr (.inr h)
theorem Sub.bool {S : St} (t : Nat) {b b' : Bool} (ht : S.sl t = .d (.lit (.bool b))) (h : b = b') : Sub S (S.setS t (.d (.lit (.bool b')))) := .of fun fx a w E m => by
 subst h
 refine ⟨E, m.nt, fun i => ?_, m.dfr, m.ok, m.frame, m.mine, m.z, m.roots⟩
 show RV E w (if i = t then _ else S.sl i) _
 split
 ·rename_i hi
  subst hi
  have := m.slots i
  rw [ht] at this
  exact this
 ·exact m.slots i
theorem AW.condT {P : Program} {S : St} {c : Operand} {x y : Code} {Q : Exit → St → Prop} {b : Bool} (hc : S.ev c = .d (.lit (.bool b))) (hb : b = true) (h : AW P x S Q) : AW P (.cond c x y) S Q :=
 AW.cond hc (fun _ => h) (fun e => by rw [hb] at e; cases e)
theorem AW.condF {P : Program} {S : St} {c : Operand} {x y : Code} {Q : Exit → St → Prop} {b : Bool} (hc : S.ev c = .d (.lit (.bool b))) (hb : b = false) (h : AW P y S Q) : AW P (.cond c x y) S Q :=
 AW.cond hc (fun e => by rw [hb] at e; cases e) (fun _ => h)
attribute [simp] V.frz V.frz1 frzR Blk.frz frzL frzH
end Go.Ab
end
section
namespace Go.Ab
open Go.RowKit
def cI (k : IntKind) (n : Int) : List D := [.lit (.int k n)]
def cB (b : Bool) : List D := [.lit (.bool b)]
def cS (s : ByteArray) : List D := [.lit (.string s)]
def cL {α : Type} (c : α → List D) (xs : List α) : List D := [.sl (xs.map c)]
attribute [simp] cI cB cS cL
theorem setI_some {α : Type} {xs ys : List α} {i : Int} {x : α} {k : Nat} (c : α → List D) (h : setI xs i x = ys) (hk : i.toNat = k) : (xs.map c).set k (c x) = ys.map c ∧ ys.length = xs.length := by
 subst h; subst hk
 exact ⟨by simp [setI, List.map_set], by simp [setI]⟩
theorem all_len {α : Type} {c : α → List D} {n : Nat} (h : ∀ x, (c x).length = n) (xs : List α) : xs.all ((fun e => decide (e.length = n)) ∘ c) = true := by
 rw [List.all_eq_true]
 intro x _
 simp [h]
@[simp] theorem all_cI (k : IntKind) (xs : List Int) : xs.all ((fun e => decide (e.length = 1)) ∘ cI k) = true := all_len (c := cI k) (fun _ => rfl) xs
@[simp] theorem all_cB (xs : List Bool) : xs.all ((fun e => decide (e.length = 1)) ∘ cB) = true := all_len (c := cB) (fun _ => rfl) xs
@[simp] theorem all_cS (xs : List ByteArray) : xs.all ((fun e => decide (e.length = 1)) ∘ cS) = true := all_len (c := cS) (fun _ => rfl) xs
@[simp] theorem all_cL {α : Type} (c : α → List D) (xs : List (List α)) : xs.all ((fun e => decide (e.length = 1)) ∘ cL c) = true := all_len (c := cL c) (fun _ => rfl) xs
@[simp] theorem all_take1 {α : Type} {l : List α} {p : α → Bool} {n : Nat} (h : l.all p = true) : (l.take n).all p = true := by
 rw [List.all_eq_true] at h ⊢
 exact fun x hx => h x (List.mem_of_mem_take hx)
@[simp] theorem all_drop1 {α : Type} {l : List α} {p : α → Bool} {n : Nat} (h : l.all p = true) : (l.drop n).all p = true := by
 rw [List.all_eq_true] at h ⊢
 exact fun x hx => h x (List.mem_of_mem_drop hx)
def D.wk : D → D
 | .lit (.slice none 0 0) => .sl []
 | x => x
def V.wk1 : V → V
 | .d x => .d x.wk
 | v => v
def V.wk : V → V
 | .d x => .d x.wk
 | .agg cs => .agg (cs.map V.wk1)
 | v => v
theorem RD.wk {w : World} {Z : Nat → Prop} {x : D} {v : Value} (h : RD w Z x v) : RD w Z x.wk v := by
 unfold D.wk
 split
 ·obtain ⟨rfl, _⟩ := h
  exact ⟨none, 0, rfl, Nat.le_refl _, Nat.zero_le _, fun _ => rfl, fun h => absurd rfl h⟩
 ·exact h
theorem RV.wk1 {E : Env} {w : World} (c : V) (v : Value) (h : RV E w c v) : RV E w c.wk1 v := by
 cases c with
 | d x => exact RD.wk h
 | _ => exact h
theorem RV.wk {E : Env} {w : World} {c : V} {v : Value} (h : RV E w c v) : RV E w c.wk v := by
 cases c with
 | d x => exact RD.wk h
 | agg cs =>
  obtain ⟨vs, h1, h2, h3⟩ := h
  refine ⟨vs, h1, fun c hc => ?_, RVs.frz RV.wk1 h3⟩
  obtain ⟨x, hx, rfl⟩ := List.mem_map.1 hc
  have := h2 x hx
  cases x <;> first | rfl | exact this
 | _ => exact h
theorem Sub.wk {S : St} (t : Nat) {v : V} (ht : S.sl t = v) : Sub S (S.setS t v.wk) := .of fun fx a w E m => by
 refine ⟨E, m.nt, fun i => ?_, m.dfr, m.ok, m.frame, m.mine, m.z, m.roots⟩
 show RV E w (if i = t then v.wk else S.sl i) _
 split
 ·rename_i hi
  subst hi; subst ht
  exact RV.wk (m.slots i)
 ·exact m.slots i
section
variable {P : Program} {S : St} {β ρ : Type}
theorem AW.mono2 {c : Code} {Q Q' : Exit → St → Prop} (h : AW P c S Q') (hq : ∀ e S', Q' e S' → ∃ S1, Sub S' S1 ∧ Q e S1) : AW P c S Q := fun fx a w m => Code.wpIn_mono (fun e a' w' ⟨S', fx', h1, hx, h2⟩ => by
 obtain ⟨S1, hs, hQ⟩ := hq e S' h1
 exact ⟨S1, fx', hQ, hx, hs fx' a' w' h2⟩) (h fx a w m)
theorem AW.lastJ {x : Code} {d : Option (Out β ρ)} {k : β → Option ρ} {r : ρ} {Q : Exit → St → Prop} (J : β → St) (h : bindO d k = some r) (h1 : ∀ o, d = some o → AW P x S (PostJ J r Q o))
  (h2 : ∀ b, k b = some r → Q .normal (J b)) : AW P x S Q := by
 cases hd : d with
 | none => rw [hd] at h; cases h
 | some o =>
  rw [hd] at h
  refine (h1 o hd).mono2 fun e S' hp => ?_
  cases o with
  | go b =>
   obtain ⟨rfl, hp⟩ := hp
   exact ⟨_, hp, h2 b h⟩
  | ret r' =>
   injection h with h
   exact ⟨S', Sub.refl _, hp.2 h⟩
theorem AW.lastN {x : Code} {d : Option β} {k : β → Option ρ} {r : ρ} {Q : Exit → St → Prop} (J : β → St) (h : d.bind k = some r) (h1 : ∀ o, d = some o → AW P x S (PostN J o))
  (h2 : ∀ b, k b = some r → Q .normal (J b)) : AW P x S Q := by
 obtain ⟨b, hd, hk⟩ := bsome h
 refine (h1 b hd).mono2 fun e S' hp => ?_
 obtain ⟨rfl, hp⟩ := hp
 exact ⟨_, hp, h2 b hk⟩
theorem thenQ_normal {K : St → Prop} {Q : Exit → St → Prop} (h : K S) : thenQ K Q .normal S := h
theorem thenQ_pass {K : St → Prop} {Q : Exit → St → Prop} {e : Exit} (he : e ≠ .normal) (h : Q e S) : thenQ K Q e S := by
 cases e with
 | normal => exact absurd rfl he
 | _ => exact h
end
theorem blockQ.hit {S : St} {id : Nat} {Q : Exit → St → Prop} (h : Q .normal S) : blockQ id Q (.exit id) S := by
 show (if id = id then _ else _)
 rw [if_pos rfl]; exact h
theorem blockQ.ret {S : St} {id : Nat} {Q : Exit → St → Prop} (h : Q .ret S) : blockQ id Q .ret S := h
theorem blockQ.normal {S : St} {id : Nat} {Q : Exit → St → Prop} (h : Q .normal S) : blockQ id Q .normal S := h
theorem FunC.enter {P : Program} {f : FuncId} {fn : Func} {c : Code} {args : List V} {v : V} (nt : Nat) (l : List (Nat × V)) (hv : v.closed = true) (hf : P.funcs[f]? = some fn) (hb : fn.body = some c) (hle : args.length ≤ fn.ntmps) (hn : fn.ntmps = nt) (hl : enterL args 0 = l)
  (h : AW P c (mk nt [] l []) (FinC P fn v)) : FunC P f args v := by
 subst hn; subst hl
 exact FunC.fin hv hf hb hle h
attribute [simp] D.wk V.wk V.wk1 Go.Value.cells List.take_of_length_le
end Go.Ab
end
section
namespace Go.Ab
open Go.RowKit
def waitsB (ops : Array Oper) (i j : Nat) : Bool := match ops[i]? with
 | some o => o.after.any fun e => Region.binds .any e && e.on == j
 | none => false
def ancB (ops : Array Oper) (anc : List (List Nat)) : Bool :=
 ((List.range ops.size).all fun i => (List.range ops.size).all fun j => !waitsB ops i j || decide (j < i)) && (ops.all fun o => o.after.all fun e => decide (e.on < ops.size)) &&
 (List.range ops.size).all fun i => (anc.getD i []).all fun j => waitsB ops i j || (List.range ops.size).any fun k => waitsB ops i k && (anc.getD k []).contains j
def mb (b : Bool) (v : V) : V := if b then v else .junk
def mk? (b : Bool) (k : Option Blk) : Option Blk := if b then k else none
def updB (b : Nat → Bool) (i : Nat) : Nat → Bool := fun j => if j = i then true else b j
theorem Oper.wp_other {P : Program} {o : Oper} {a : Act} {w : World} {K : Act → World → Prop} {Q Q' : Exit → Act → World → Prop} (hq : ∀ e a w, e ≠ .normal → Q e a w → Q' e a w)
  (h : o.wp P a w K Q) : o.wp P a w K Q' := by
 unfold Oper.wp at *
 generalize (execOp a.eval o).run P w = r at *
 cases r with
 | ok n w' =>
  cases n <;> simp only [Oper.upon] at h ⊢ <;>
   first
    | exact h
    | exact Calls.mono h (fun e w'' he => by
      cases e with
      | returned v => exact he
      | panicked c => exact hq _ _ _ (by simp) he
      | outgrown =>
       obtain ⟨a, w, he⟩ := (he : LetsOut Q)
       exact (⟨a, w, hq _ _ _ (by simp) he⟩ : LetsOut Q'))
 | halt x w' => cases x <;> simp only [Oper.upon] at h ⊢ <;> first | exact h | exact hq _ _ _ (by simp) h
def atN (K : Act → World → Prop) (Q : Exit → Act → World → Prop) : Exit → Act → World → Prop
 | .normal, a, w => K a w
 | .exit i, a, w => Q (.exit i) a w
 | .goto i, a, w => Q (.goto i) a w
 | .ret, a, w => Q .ret a w
 | .panic c, a, w => Q (.panic c) a w
 | .outgrown, a, w => Q .outgrown a w
theorem atN_other {K : Act → World → Prop} {Q : Exit → Act → World → Prop} {e : Exit} {a : Act} {w : World} (he : e ≠ .normal) (h : atN K Q e a w) : Q e a w := by
 cases e with
 | normal => exact absurd rfl he
 | _ => exact h
theorem ready_mem {ops : Array Oper} {listed : Array Bool} {i : Nat} (hi : i ∈ Region.ready .any ops listed) : i < ops.size ∧ listed.getD i true = false ∧ ∃ o, ops[i]? = some o ∧ ∀ j, waitsB ops i j = true → listed.getD j false = true := by
 unfold Region.ready at hi
 rw [List.mem_filter] at hi
 obtain ⟨h1, h2⟩ := hi
 have hlt := List.mem_range.1 h1
 rw [Bool.and_eq_true] at h2
 obtain ⟨h2, h3⟩ := h2
 refine ⟨hlt, by simpa using h2, ops[i], Array.getElem?_eq_getElem hlt, fun j hj => ?_⟩
 rw [Array.getElem?_eq_getElem hlt] at h3
 unfold waitsB at hj
 rw [Array.getElem?_eq_getElem hlt] at hj
 simp only [Option.map_some, Option.getD_some, Array.all_eq_true_iff_forall_mem] at h3
 simp only [Array.any_eq_true'] at hj
 obtain ⟨e, he, hb⟩ := hj
 rw [Bool.and_eq_true, beq_iff_eq] at hb
 have := h3 e he
 rw [hb.1] at this
 simp at this
 rw [← hb.2]
 simpa using this
theorem getD_set {listed : Array Bool} {i j : Nat} (hi : i < listed.size) : (listed.setIfInBounds i true).getD j false = if j = i then true else listed.getD j false := by
 by_cases h : j = i
 ·subst h
  simp [Array.getD, hi]
 ·rw [if_neg h]
  by_cases hj : j < listed.size
  ·have : ¬ i = j := fun e => h e.symm
   simp [Array.getD, hj, this]
  ·simp [Array.getD, hj]
theorem AW.regionAny {P : Program} {S : St} {Q : Exit → St → Prop} {id : Nat} {l : List Oper} (anc : List (List Nat)) (I : (Nat → Bool) → St) (hm : P.follows .mixedOrders = true) (hA : ancB l.toArray anc = true)
  (h0 : Sub S (I fun _ => false))
  (hstep : ∀ i o, l.toArray[i]? = some o → ∀ b : Nat → Bool, b i = false → (∀ j, j ∈ anc.getD i [] → b j = true) → (∀ k, i ∈ anc.getD k [] → b k = false) → Chain false P l.toArray [o] (I b) (fun S' => Sub S' (I (updB b i))))
  (hend : ∀ b : Nat → Bool, (∀ i, i < l.length → b i = true) → ∃ S1, Sub (I b) S1 ∧ Q .normal S1) (hd : noDefer l = true := by rfl) : AW P (.region id l.toArray true) S Q := by
 intro fx a w hM
 refine Code.wpIn_mono (fun e a w h => by obtain ⟨rfl, h⟩ := h; exact h) (rd_region_any (Q := Aft fx Q .normal) hd hm ?_)
 have hM' : Models fx S a { w with drawn := w.drawn + 1 } := by
  obtain ⟨E, m⟩ := hM
  exact ⟨E, m.grow ⟨rfl, rfl, rfl, Nat.le_refl _, fun _ _ => rfl⟩⟩
 have hback : ∀ i j, i < l.toArray.size → waitsB l.toArray i j = true → j < i := fun i j hi hw => by
  unfold ancB at hA
  simp only [Bool.and_eq_true, List.all_eq_true, List.mem_range] at hA
  have hj : j < l.toArray.size := by
   unfold waitsB at hw
   rw [Array.getElem?_eq_getElem hi] at hw
   simp only [Array.any_eq_true'] at hw
   obtain ⟨e, he, hb⟩ := hw
   rw [Bool.and_eq_true, beq_iff_eq] at hb
   have h2 := hA.1.2
   rw [Array.all_eq_true_iff_forall_mem] at h2
   have h3 := h2 _ (Array.getElem_mem hi)
   rw [Array.all_eq_true_iff_forall_mem] at h3
   have := h3 e he
   rw [← hb.2]
   exact of_decide_eq_true this
  have := hA.1.1 i hi j hj
  rw [hw] at this
  simpa using this
 have hclos : ∀ i j, i < l.toArray.size → j ∈ anc.getD i [] → waitsB l.toArray i j = true ∨ ∃ k, waitsB l.toArray i k = true ∧ j ∈ anc.getD k [] := fun i j hi hj => by
  unfold ancB at hA
  simp only [Bool.and_eq_true, List.all_eq_true, List.mem_range] at hA
  have := hA.2 i hi j hj
  rw [Bool.or_eq_true, List.any_eq_true] at this
  rcases this with h | ⟨k, _, h⟩
  ·exact .inl h
  ·rw [Bool.and_eq_true] at h
   exact .inr ⟨k, h.1, by simpa using h.2⟩
 have key : ∀ (n : Nat) (listed : Array Bool) (a : Act) (w : World), listed.size = l.toArray.size → (listed.toList.countP (· = false)) = n → (∀ i, listed.getD i false = true → ∀ j ∈ anc.getD i [], listed.getD j false = true) → Models fx (I fun j => listed.getD j false) a w →
   wpAny P .any l.toArray (NQ (Aft fx Q .normal)) n listed a w := by
  intro n
  induction n with
  | zero =>
   intro listed a w hs hn hinv hM
   have hall : ∀ i, i < l.length → listed.getD i false = true := fun i hi => by
    have hi' : i < listed.size := by rw [hs]; simpa using hi
    rw [List.countP_eq_zero] at hn
    have := hn listed[i] (by simp)
    simpa [Array.getD, hi'] using this
   have hready : Region.ready .any l.toArray listed = [] := by
    rw [List.eq_nil_iff_forall_not_mem]
    intro i hi
    obtain ⟨h1, h2, _⟩ := ready_mem hi
    have h3 := hall i (by simpa using h1)
    have hi' : i < listed.size := by rw [hs]; exact h1
    simp [Array.getD, hi'] at h2 h3
    rw [h2] at h3; cases h3
   refine ⟨hready, ?_⟩
   obtain ⟨S1, hs1, hq⟩ := hend _ hall
   exact ⟨rfl, Aft.one hq (hs1 _ _ _ hM)⟩
  | succ n ih =>
   intro listed a w hs hn hinv hM
   refine ⟨fun hnil => ?_, fun i hi => ?_⟩
   ·exfalso
    have hex : ∃ i, i < listed.size ∧ listed.getD i true = false := by
     have : 0 < listed.toList.countP (· = false) := by omega
     rw [List.countP_pos_iff] at this
     obtain ⟨x, hx, hxf⟩ := this
     obtain ⟨i, hi, rfl⟩ := List.getElem_of_mem hx
     have hi' : i < listed.size := by simpa using hi
     exact ⟨i, hi', by simpa [Array.getD, hi'] using hxf⟩
    obtain ⟨i, ⟨hi1, hi2⟩, hleast⟩ := exists_least _ hex
    have : i ∈ Region.ready .any l.toArray listed := by
     unfold Region.ready
     rw [List.mem_filter]
     have hlt : i < l.toArray.size := by rw [← hs]; exact hi1
     refine ⟨List.mem_range.2 hlt, ?_⟩
     rw [hi2, Array.getElem?_eq_getElem hlt]
     simp only [Bool.not_false, Bool.true_and, Option.map_some, Option.getD_some, Array.all_eq_true_iff_forall_mem]
     intro e he
     cases hb : Region.binds .any e with
     | false => rfl
     | true =>
      have hwt : waitsB l.toArray i e.on = true := by
       unfold waitsB
       rw [Array.getElem?_eq_getElem hlt]
       simp only [Array.any_eq_true']
       exact ⟨e, he, by simp [hb]⟩
      have hon : e.on < i := hback i e.on hlt hwt
      have hon2 : e.on < listed.size := by omega
      cases hl : listed.getD e.on true with
      | false => exact absurd (hleast e.on ⟨hon2, hl⟩) (by omega)
      | true => simpa [Array.getD, hon2] using hl
    rw [hnil] at this
    cases this
   ·obtain ⟨hlt, hun, o, ho, hw⟩ := ready_mem hi
    have hi' : i < listed.size := by rw [hs]; exact hlt
    have hbi : listed.getD i false = false := by simp [Array.getD, hi'] at hun ⊢; exact hun
    have hanc : ∀ j, j ∈ anc.getD i [] → listed.getD j false = true := fun j hj => by
     rcases hclos i j hlt hj with h | ⟨k, h1, h2⟩
     ·exact hw j h
     ·exact hinv k (hw k h1) j h2
    have hdesc : ∀ k, i ∈ anc.getD k [] → listed.getD k false = false := fun k hk => by
     cases hlk : listed.getD k false with
     | false => rfl
     | true => rw [hinv k hlk i hk] at hbi; cases hbi
    have hch := hstep i o ho (fun j => listed.getD j false) hbi hanc hdesc fx a w
     (atN (wpAny P .any l.toArray (NQ (Aft fx Q .normal)) n (listed.setIfInBounds i true)) (NQ (Aft fx Q .normal))) hM (fun S' a' w' hsub hM' => by
      show wpAny P .any l.toArray (NQ (Aft fx Q .normal)) n (listed.setIfInBounds i true) a' w'
      refine ih _ _ _ (by simpa using hs) ?_ ?_ ?_
      ·have : (listed.setIfInBounds i true).toList = listed.toList.set i true := by simp
       have hv : listed.toList[i]'(by simpa using hi') = false := by simpa [Array.getD, hi'] using hbi
       rw [this, List.countP_set (by simpa using hi'), hv, if_pos (by decide), if_neg (by decide)]
       omega
      ·intro k hk j hj
       rw [getD_set hi'] at hk ⊢
       by_cases hki : k = i
       ·subst hki
        have := hanc j hj
        split
        ·rfl
        ·exact this
       ·rw [if_neg hki] at hk
        split
        ·rfl
        ·exact hinv k hk j hj
      ·have he : (fun j => (listed.setIfInBounds i true).getD j false) = updB (fun j => listed.getD j false) i := by
        funext j
        rw [getD_set hi']; rfl
       rw [he]
       exact hsub _ _ _ hM')
    unfold wpOp
    simp only [ho]
    unfold wpList at hch
    by_cases hwt : Region.wanted o (yielded l.toArray a.tmps) = true
    ·rw [if_pos hwt] at hch ⊢
     rcases hch with hch | ⟨h1, a1, w1, h2⟩
     ·exact .inl (Oper.wp_other (fun e a w he h => atN_other he h) (Oper.wp_mono (fun a w h => h) hch))
     ·exact .inr ⟨h1, a1, w1, h2⟩
    ·rw [if_neg hwt] at hch ⊢
     exact hch
 refine key (l.toArray.size) (Array.replicate l.toArray.size false) a _ (by simp) (by rw [Array.toList_replicate, List.countP_replicate, if_pos (by decide)]) (fun i hi => ?_) ?_
 ·simp [Array.getD] at hi
 ·have : (fun j => (Array.replicate l.toArray.size false).getD j false) = fun _ => false := by
   funext j
   simp [Array.getD]
  rw [this]
  exact h0 _ _ _ hM'
theorem AW.seqAny {P : Program} {S : St} {Q : Exit → St → Prop} {id : Nat} {l : List Oper} {y : Code} (anc : List (List Nat)) (I : (Nat → Bool) → St) (S1 : St) (hm : P.follows .mixedOrders = true) (hA : ancB l.toArray anc = true)
  (h0 : Sub S (I fun _ => false))
  (hstep : ∀ i o, l.toArray[i]? = some o → ∀ b : Nat → Bool, b i = false → (∀ j, j ∈ anc.getD i [] → b j = true) → (∀ k, i ∈ anc.getD k [] → b k = false) → Chain false P l.toArray [o] (I b) (fun S' => Sub S' (I (updB b i))))
  (hend : ∀ b : Nat → Bool, (∀ i, i < l.length → b i = true) → Sub (I b) S1) (hy : AW P y S1 Q) (hd : noDefer l = true := by rfl) : AW P (.seq (.region id l.toArray true) y) S Q :=
 .seq (.regionAny anc I hm hA h0 hstep (fun b hb => ⟨S1, hend b hb, hy⟩) hd)
def Steps (P : Program) (ops : Array Oper) (anc : List (List Nat)) (I : (Nat → Bool) → St) : Nat → List Oper → Prop
 | _, [] => True
 | i, o :: l => (∀ b : Nat → Bool, b i = false → (∀ j, j ∈ anc.getD i [] → b j = true) → (∀ k, i ∈ anc.getD k [] → b k = false) → Chain false P ops [o] (I b) (fun S' => Sub S' (I (updB b i)))) ∧ Steps P ops anc I (i + 1) l
theorem Steps.nil {P : Program} {ops : Array Oper} {anc : List (List Nat)} {I : (Nat → Bool) → St} {i : Nat} : Steps P ops anc I i [] := trivial
theorem Steps.cons {P : Program} {ops : Array Oper} {anc : List (List Nat)} {I : (Nat → Bool) → St} {i : Nat} {o : Oper} {l : List Oper}
  (h : ∀ b : Nat → Bool, b i = false → (∀ j, j ∈ anc.getD i [] → b j = true) → (∀ k, i ∈ anc.getD k [] → b k = false) → Chain false P ops [o] (I b) (fun S' => Sub S' (I (updB b i)))) (h2 : Steps P ops anc I (i + 1) l) : Steps P ops anc I i (o :: l) := ⟨h, h2⟩
theorem Steps.get {P : Program} {ops : Array Oper} {anc : List (List Nat)} {I : (Nat → Bool) → St} : ∀ {l : List Oper} {k : Nat}, Steps P ops anc I k l → ∀ i o, l[i]? = some o → ∀ b : Nat → Bool, b (k + i) = false → (∀ j, j ∈ anc.getD (k + i) [] → b j = true) → (∀ q, (k + i) ∈ anc.getD q [] → b q = false) → Chain false P ops [o] (I b) (fun S' => Sub S' (I (updB b (k + i))))
 | [], _, _, i, o, h => by simp at h
 | x :: l, k, hs, 0, o, h => by
  simp at h; subst h
  exact hs.1
 | x :: l, k, hs, i + 1, o, h => by
  have := hs.2.get i o (by simpa using h)
  rw [show k + (i + 1) = k + 1 + i by omega]
  exact this
theorem AW.seqAnyS {P : Program} {S : St} {Q : Exit → St → Prop} {id : Nat} {l : List Oper} {y : Code} (anc : List (List Nat)) (I : (Nat → Bool) → St) (S1 : St) (hm : P.follows .mixedOrders = true) (hA : ancB l.toArray anc = true)
  (h0 : Sub S (I fun _ => false)) (hstep : Steps P l.toArray anc I 0 l)
  (hend : ∀ b : Nat → Bool, (∀ i, i < l.length → b i = true) → Sub (I b) S1) (hy : AW P y S1 Q) (hd : noDefer l = true := by rfl) : AW P (.seq (.region id l.toArray true) y) S Q :=
 .seqAny anc I S1 hm hA h0 (fun i o ho => by have := hstep.get i o (by simpa using ho); rw [Nat.zero_add] at this; exact this) hend hy hd
theorem AW.lastAnyS {P : Program} {S : St} {Q : Exit → St → Prop} {id : Nat} {l : List Oper} (anc : List (List Nat)) (I : (Nat → Bool) → St) (S1 : St) (hm : P.follows .mixedOrders = true) (hA : ancB l.toArray anc = true)
  (h0 : Sub S (I fun _ => false)) (hstep : Steps P l.toArray anc I 0 l)
  (hend : ∀ b : Nat → Bool, (∀ i, i < l.length → b i = true) → Sub (I b) S1) (hy : Q .normal S1) (hd : noDefer l = true := by rfl) : AW P (.region id l.toArray true) S Q :=
 .regionAny anc I hm hA h0 (fun i o ho => by have := hstep.get i o (by simpa using ho); rw [Nat.zero_add] at this; exact this) (fun b hb => ⟨S1, hend b hb, hy⟩) hd
@[simp] theorem has_ite {c : Prop} [Decidable c] {x y : V} {id : Nat} : (if c then x else y).has id = if c then x.has id else y.has id := by split <;> rfl
@[simp] theorem killB_ite {c : Prop} [Decidable c] {x y : Option Blk} {id : Nat} : killB id (if c then x else y) = if c then killB id x else killB id y := by split <;> rfl
attribute [simp] mb mk? updB
end Go.Ab
end
