/- An exact machine for closed calls: operations that change memory. An exact machine for closed calls: operations that change memory, sound. -/
import Derived.Test.YtmgddgcniacnbaaGreatDoorX1
import Derived.Test.YtmgddgcniacnbaaGreatDoorA2
section
namespace Go.Xm
open Go.Ab Go.RowKit
theorem splice_rvs {E : Env} {w : World} {cs xs : List V} {L us : List Value} {off : Nat} (h : RVs E w cs (L.take cs.length)) (g : RVs E w xs us) (ho : off ≤ cs.length) :
    RVs E w (setL cs off xs) ((L.take off ++ (us ++ L.drop (off + us.length))).take (setL cs off xs).length) := by
  have hk := RVs_length h
  have hu := RVs_length g
  rw [List.length_take] at hk
  have e1 : (setL cs off xs).length = off + (us.length + (cs.length - (off + us.length))) := by
    unfold setL
    simp only [List.length_append, List.length_take, List.length_drop]
    omega
  have hlo : (L.take off).length = off := by rw [List.length_take]; omega
  have e2 : (L.take off ++ (us ++ L.drop (off + us.length))).take (setL cs off xs).length = (L.take cs.length).take off ++ (us ++ (L.take cs.length).drop (off + us.length)) := by
    rw [e1]
    conv => lhs; arg 1; rw [← hlo]
    rw [List.take_length_add_append, List.take_length_add_append, List.drop_take, List.take_take, Nat.min_eq_left ho, hlo]
  rw [e2]
  unfold setL
  rw [← hu]
  exact RVs_append (RVs_take _ h) (RVs_append g (RVs_drop _ h))
theorem setL_cell {cs xs : List V} {off : Nat} (h : ∀ c ∈ cs, c.cell = true) (g : ∀ c ∈ xs, c.cell = true) : ∀ c ∈ setL cs off xs, c.cell = true := fun c hc => by
  unfold setL at hc
  rcases List.mem_append.1 hc with hc | hc
  · exact h c (List.mem_of_mem_take hc)
  · rcases List.mem_append.1 hc with hc | hc
    · exact g c hc
    · exact h c (List.mem_of_mem_drop hc)
theorem setL_lt {n : Nat} {cs xs : List V} {off : Nat} (h : ltL n cs = true) (g : ltL n xs = true) : ltL n (setL cs off xs) = true := by
  rw [ltL_iff] at h g ⊢
  intro c hc
  unfold setL at hc
  rcases List.mem_append.1 hc with hc | hc
  · exact h c (List.mem_of_mem_take hc)
  · rcases List.mem_append.1 hc with hc | hc
    · exact g c hc
    · exact h c (List.mem_of_mem_drop hc)
theorem XW.wr {C : Cx} {nx : Nat} {H : XH} {E : Env} {w w' : World} (h : XW C nx H E w) {i : Nat} {b : XB} (hf : okW C.pr i = true) (hg : H.get i = some b) {c c' : Array Value} (hc0 : w.heap[(E.loc i).b]? = some (.cells c b.T (0, 0)))
    {xs : List V} {us : List Value} {off : Nat} (ho : off ≤ b.cs.length) (hu : off + us.length ≤ c.size) (hx : ∀ x ∈ xs, x.cell = true) (hl : ltL nx xs = true) (hv : RVs E w xs us)
    (hgr : w.grownBy w' (some (E.loc i).b)) (hnew : w'.heap[(E.loc i).b]? = some (.cells c' b.T (0, 0))) (hc' : c'.toList = c.toList.take off ++ (us ++ c.toList.drop (off + us.length))) :
    XW C nx (H.put i ⟨b.T, b.n, setL b.cs off xs⟩) E w' := by
  obtain ⟨h1, h2, h3, h4, h5, c0, h6, h7, h8, h9⟩ := h.hold i b hg
  rw [hc0] at h6
  injection h6 with h6; injection h6 with h6
  subst h6
  refine h.upd hf hg hc0 (setL_cell h5 hx) (setL_lt (h.lt i b hg).2 hl) ?_ ?_ hgr hnew
  · rw [← Array.length_toList, ← Array.length_toList, hc']
    simp only [List.length_append, List.length_take, List.length_drop, Array.length_toList]
    omega
  · rw [hc']
    exact splice_rvs h9 hv ho
theorem XW.ren {C : Cx} {nx : Nat} {H : XH} {E : Env} {w : World} (h : XW C nx H E w) {id : Nat} {b : XB} (hf : okW C.pr id = true) (hg : H.get id = some b) :
    ∃ E', XW C (nx + 1) ((H.del id).put nx b) E' w ∧ E'.loc nx = E.loc id ∧ Agr nx E E' := by
  have hlt := h.lt id b hg
  have ha : Agr nx E (E.at nx (E.loc id)) := fun i hi => by simp [Env.at, Nat.ne_of_lt hi]
  have hz' : ∀ b, E.Z b → (E.at nx (E.loc id)).Z b := fun _ h => h
  have hloc0 : (E.at nx (E.loc id)).loc nx = E.loc id := by simp [Env.at]
  have gt : ∀ i x, ((H.del id).put nx b).get i = some x → (i = nx ∧ x = b) ∨ (i ≠ id ∧ i < nx ∧ H.get i = some x) := fun i x hi => by
    rw [Tr.get_put] at hi
    split at hi
    · rename_i e; injection hi with hi; exact .inl ⟨e, hi.symm⟩
    · rw [Tr.get_del] at hi
      split at hi
      · cases hi
      · rename_i e; exact .inr ⟨e, (h.lt i x hi).1, hi⟩
  have gn : ∀ i, ((H.del id).put nx b).get i ≠ none → i = nx ∨ (i ≠ id ∧ i < nx ∧ H.get i ≠ none) := fun i hi => by
    cases hx : ((H.del id).put nx b).get i with
    | none => exact absurd hx hi
    | some x => rcases gt i x hx with ⟨e, _⟩ | ⟨e1, e2, e3⟩
                · exact .inl e
                · exact .inr ⟨e1, e2, by rw [e3]; simp⟩
  refine ⟨E.at nx (E.loc id), ⟨fun i x hi => ?_, fun i x hi => ?_, fun i j hi hj hij => ?_, fun i hfi hi => ?_, h.z, fun i b hx => ?_, h.below, fun i hi => ?_⟩, hloc0, ha⟩
  · rcases gt i x hi with ⟨e, rfl⟩ | ⟨e1, e2, e3⟩
    · subst e
      obtain ⟨h1, h2, h3, h4, h5, c, h6, h7, h8, h9⟩ := h.hold id x hg
      unfold XHold
      rw [hloc0]
      exact ⟨h1, h2, h3, h4, h5, c, h6, h7, h8, RVs.agr ha h.z hz' _ _ hlt.2 h9⟩
    · exact (h.hold i x e3).keep ha e2 (h.lt i x e3).2 h.z hz' rfl
  · rcases gt i x hi with ⟨e, rfl⟩ | ⟨e1, e2, e3⟩
    · exact ⟨by omega, ltL_mono (Nat.le_succ _) _ hlt.2⟩
    · exact ⟨by omega, ltL_mono (Nat.le_succ _) _ (h.lt i x e3).2⟩
  · rcases gn i hi with e | ⟨e1, e2, e3⟩
    · rcases gn j hj with f | ⟨f1, f2, f3⟩
      · exact absurd (e.trans f.symm) hij
      · rw [e, hloc0, ha j f2]
        exact h.inj id j (by rw [hg]; simp) f3 (fun e => f1 e.symm)
    · rcases gn j hj with f | ⟨f1, f2, f3⟩
      · rw [f, hloc0, ha i e2]
        exact h.inj i id e3 (by rw [hg]; simp) e1
      · rw [ha i e2, ha j f2]
        exact h.inj i j e3 f3 hij
  · rcases gn i hi with e | ⟨e1, e2, e3⟩
    · rw [e, hloc0]; exact h.mine id (okW_iff hf).1 (by rw [hg]; simp)
    · rw [ha i e2]; exact h.mine i hfi e3
  · by_cases e : i = nx
    · subst e; rw [hloc0] at hx; exact h.xs id b hx
    · have : (E.at nx (E.loc id)).loc i = E.loc i := by simp [Env.at, e]
      rw [this] at hx; exact h.xs i b hx
  · obtain ⟨k1, k2, k3⟩ := h.kp i hi
    have hne : i ≠ id := fun e => (okW_iff hf).2 (e ▸ hi)
    have hin : i < nx := by
      cases hq : H.get i with
      | none => exact absurd hq k1
      | some d => exact (h.lt i d hq).1
    exact ⟨by rw [Tr.get_put, if_neg (Nat.ne_of_lt hin), Tr.get_del, if_neg hne]; exact k1, by rw [ha i hin]; exact k2, k3⟩
def okC (nx : Nat) (cs : List V) : Bool := cs.all V.cell && ltL nx cs
theorem okC_iff {nx : Nat} {cs : List V} (h : okC nx cs = true) : (∀ c ∈ cs, c.cell = true) ∧ ltL nx cs = true := by
  simp only [okC, Bool.and_eq_true] at h
  exact ⟨fun c hc => List.all_eq_true.1 h.1 c hc, h.2⟩
def newX (nx : Nat) (H : XH) (T n : Nat) (cs : List V) : Option (XH × Nat) :=
  match Nat.blt 0 n && okC nx cs with
  | true => some (H.put nx ⟨T, n, cs⟩, nx + 1)
  | false => none
def srX (H : XH) (n : Nat) : V → Option (Nat × List V)
  | .d (.lit (.slice none 0 0)) => some (0, [])
  | .ref id off len => match H.get id with
    | some b => match Nat.beq b.n n && Nat.ble ((off + len) * n) b.cs.length with
      | true => some (len, (b.cs.drop (off * n)).take (len * n))
      | false => none
    | none => none
  | _ => none
def apX (ty : TypeId → Option TI) (S : St) (H : XH) (fl : Pr) (nx : Nat) (T : TypeId) (s x : Operand) : Option (V × XH × Nat) :=
  (ty T).bind fun ti => match ti.desc with
  | .slice e => (ty e).bind fun te => match Nat.blt 0 te.size && Nat.blt 0 te.bytes && Nat.beq te.zero.cells.size te.size with
    | true => match srX H te.size (S.ev x) with
      | some (m, ys) => match S.ev s with
        | .d (.lit (.slice none 0 0)) => match m with
          | 0 => some (.d (.lit (.slice none 0 0)), H, nx)
          | _ + 1 => match Nat.ble (m * te.bytes) Rp.reach with
            | true => some (.ref nx 0 m, H.put nx ⟨e, te.size, ys⟩, nx + 1)
            | false => none
        | .ref id 0 len => match H.get id with
          | some b => match okW fl id && Nat.beq b.T e && Nat.beq b.n te.size && Nat.ble ((len + m) * te.bytes) Rp.reach with
            | true => match Nat.ble ((len + m) * te.size) b.cs.length with
              | true => some (.ref id 0 (len + m), H.put id ⟨b.T, b.n, setL b.cs (len * te.size) ys⟩, nx)
              | false => match Nat.beq (len * te.size) b.cs.length with
                | true => some (.ref nx 0 (len + m), (H.del id).put nx ⟨e, te.size, b.cs ++ ys⟩, nx + 1)
                | false => none
            | false => none
          | none => none
        | _ => none
      | none => none
    | false => none
  | _ => none
def clX (ty : TypeId → Option TI) (S : St) (H : XH) (fl : Pr) (nx : Nat) (T : TypeId) (s : Operand) : Option (V × XH × Nat) :=
  (ty T).bind fun ti => match ti.desc with
  | .slice e => (ty e).bind fun te => match Nat.beq te.zero.cells.size te.size && te.zero.cells.toList.all plain with
    | true => match S.ev s with
      | .ref id off len => match H.get id with
        | some b => match okW fl id && Nat.beq b.T e && Nat.beq b.n te.size && Nat.blt 0 len && Nat.ble ((off + len) * te.size) b.cs.length with
          | true => some (.tup [], H.put id ⟨b.T, b.n, setL b.cs (off * te.size) (zeroL (litL te.zero) len)⟩, nx)
          | false => none
        | none => none
      | _ => none
    | false => none
  | _ => none
def eX (ty : TypeId → Option TI) (S : St) (H : XH) (fl : Pr) (nx : Nat) : Op → Option (V × XH × Nat)
  | .box T x => (newX nx H T (cellsV (S.ev x)).length (cellsV (S.ev x))).map fun p => (.ptr nx 0 0, p)
  | .alloc T => (ty T).bind fun ti => match ti.zero.cells.toList.all plain with
    | true => (newX nx H T ti.zero.cells.size (litL ti.zero)).map fun p => (.ptr nx 0 0, p)
    | false => none
  | .store T p x => (ty T).bind fun ti => match S.ev p with
    | .ptr id 0 off => match H.get id with
      | some b => match okW fl id && okC nx (cellsV (S.ev x)) && Nat.beq (cellsV (S.ev x)).length ti.size && Nat.ble (off + ti.size) b.cs.length with
        | true => some (.tup [], H.put id ⟨b.T, b.n, setL b.cs off (cellsV (S.ev x))⟩, nx)
        | false => none
      | none => none
    | _ => none
  | .buildSlice T len parts => (ty T).bind fun ti => match ti.desc with
    | .slice e => (ty e).bind fun te => match Nat.ble (len * te.size) 16777216 && Nat.beq te.zero.cells.size te.size && te.zero.cells.toList.all plain && Nat.blt 0 te.size with
      | true => match fillV (fun i => some (i * te.size, te.size)) (zeroL (litL te.zero) len) (parts.toList.map fun p => (p.1, S.ev p.2)) with
        | some r => match Nat.beq r.length (len * te.size) with
          | true => (newX nx H e te.size r).map fun p => (.ref nx 0 len, p)
          | false => none
        | none => none
      | false => none
    | _ => none
  | .makeSlice T l c => (ty T).bind fun ti => match ti.desc, S.ev l, S.ev c with
    | .slice e, .d (.lit (.int _ n)), .d (.lit (.int _ k)) => (ty e).bind fun te =>
      if 0 ≤ n ∧ n ≤ k ∧ k.toNat * te.bytes ≤ Rp.reach ∧ 0 < te.bytes ∧ te.zero.cells.size = te.size ∧ te.zero.cells.toList.all plain = true ∧ 0 < te.size then
        (newX nx H e te.size (zeroL (litL te.zero) k.toNat)).map fun p => (.ref nx 0 n.toNat, p)
      else none
    | _, _, _ => none
  | .call c => match c.callee with
    | .builtin .append => match c.args.toList, c.argTypes.toList with
      | [s, x], [T, T'] => match Nat.beq T T' with
        | true => apX ty S H fl nx T s x
        | false => none
      | _, _ => none
    | .builtin .clear => match c.args.toList, c.argTypes.toList with
      | [s], [T] => clX ty S H fl nx T s
      | _, _ => none
    | _ => none
  | _ => none
def Yld (N : Next) (u : Value) : Prop := N = .value u ∨ (N = .skip ∧ u = undef)
def ESound (P : Program) (C : Cx) (nx : Nat) (E : Env) (w : World) (s : Sem Next) (v : V) (H' : XH) (nx' : Nat) : Prop :=
  ∃ N u w' E', s.run P w = .ok N w' ∧ Yld N u ∧ RV E' w' v u ∧ XW C nx' H' E' w' ∧ Agr nx E E' ∧ nx ≤ nx'
theorem newX_some {nx : Nat} {H : XH} {T n : Nat} {cs : List V} {p : XH × Nat} (h : newX nx H T n cs = some p) : 0 < n ∧ (∀ c ∈ cs, c.cell = true) ∧ ltL nx cs = true ∧ p = (H.put nx ⟨T, n, cs⟩, nx + 1) := by
  unfold newX at h
  split at h
  · rename_i hc
    simp only [Bool.and_eq_true] at hc
    injection h with h
    exact ⟨blt_iff.1 hc.1, (okC_iff hc.2).1, (okC_iff hc.2).2, h.symm⟩
  · cases h
theorem alloc_below (w : World) (o : Obj) : Below w.heap.size w (w.alloc o) := (Below.refl _ _).alloc (Nat.le_refl _) o
theorem alloc_at (w : World) (o : Obj) : (w.alloc o).heap[w.heap.size]? = some o := by show (w.heap.push _)[w.heap.size]? = _; simp
section
variable {P : Program} {C : Cx} {nx nt : Nat} {sl : Tr V} {H : XH} {E : Env} {w : World}
theorem srX_sound (hw : XW C nx H E w) {n : Nat} (hn : 0 < n) {v : V} {x : Value} (hx : RV E w v x) {m : Nat} {ys : List V} (h : srX H n v = some (m, ys)) :
    (∀ y ∈ ys, y.cell = true) ∧ ltL nx ys = true ∧ ((x = .slice none 0 0 ∧ m = 0 ∧ ys = []) ∨
      ∃ a c news, x = .slice (some a) m c ∧ news.length = m * n ∧ RVs E w ys news ∧ ∀ j u, news[j]? = some u → w.cell? (a.add j) = some u) := by
  unfold srX at h
  split at h
  · simp only [Option.some.injEq, Prod.mk.injEq] at h
    obtain ⟨rfl, rfl⟩ := h
    exact ⟨fun y hy => by (cases hy), rfl, .inl ⟨RD_lit hx, rfl, rfl⟩⟩
  · rename_i id off len
    split at h
    · rename_i b hg
      split at h
      · rename_i hc
        simp only [Bool.and_eq_true] at hc
        obtain ⟨hb, hle⟩ := hc
        have hb : b.n = n := Nat.eq_of_beq_eq_true hb
        have hle : (off + len) * n ≤ b.cs.length := Nat.le_of_ble_eq_true hle
        simp only [Option.some.injEq, Prod.mk.injEq] at h
        obtain ⟨rfl, rfl⟩ := h
        have hcap := (hw.hold id b hg).capn
        obtain ⟨g1, g2, g3, g4, g5, c, g6, g7, g8, g9⟩ := hw.hold id b hg
        refine ⟨fun y hy => g5 y (List.mem_of_mem_drop (List.mem_of_mem_take hy)), ?_, .inr ?_⟩
        · have := (hw.lt id b hg).2
          rw [ltL_iff] at this ⊢
          exact fun y hy => this y (List.mem_of_mem_drop (List.mem_of_mem_take hy))
        · rcases hx with ⟨h1, _⟩ | ⟨_, h2, a, h4, h5⟩
          · rw [g1] at h1; cases h1
          · have hlen := RVs_length g9
            refine ⟨⟨(E.loc id).b, a, none⟩, _, ((c.toList.take b.cs.length).drop (off * n)).take (len * n), h4, ?_, RVs_take _ (RVs_drop _ g9), ?_⟩
            · rw [List.length_take, List.length_drop, hlen]
              rw [Nat.add_mul] at hle
              omega
            · intro j u hu
              by_cases hl0 : len = 0
              · subst hl0; simp at hu
              · have hoc : off < (E.loc id).cap := by
                  have : (off + 1) * n ≤ (E.loc id).cap * n := by
                    rw [hb] at hcap
                    exact Nat.le_trans (Nat.mul_le_mul_right _ (by omega)) (Nat.le_trans hle hcap)
                  exact Nat.le_of_mul_le_mul_right this hn
                have ha := h5 (.inr hoc)
                rw [g2, g3, hb, Nat.zero_add] at ha
                have := rangeAt_take (rangeAt_drop (take_range g6 b.cs.length) (off * n)) (len * n)
                rw [Nat.zero_add] at this
                rw [add_addr, ha]
                exact this j u hu
      · cases h
    · cases h
  · cases h
theorem apX_sound (hw : XW C nx H E w) {ρ : Operand → Value} (hev : ∀ x, RV E w ((stOf nt sl H).ev x) (ρ x)) {T t : TypeId} {s x : Operand} {v : V} {H' : XH} {nx' : Nat} (h : apX (tyOf P) (stOf nt sl H) H C.pr nx T s x = some (v, H', nx')) :
    ∃ u w' E', (Builtin.append_ #[T, T] t #[ρ s, ρ x]).run P w = .ok u w' ∧ RV E' w' v u ∧ XW C nx' H' E' w' ∧ Agr nx E E' ∧ nx ≤ nx' := by
  unfold apX at h
  cases hT : tyOf P T with
  | none => simp [hT] at h
  | some ti =>
    simp only [hT, Option.bind_some] at h
    split at h
    · rename_i e hd
      cases hE : tyOf P e with
      | none => simp [hE] at h
      | some te =>
        simp only [hE, Option.bind_some] at h
        split at h
        · rename_i hc
          simp only [Bool.and_eq_true] at hc
          obtain ⟨⟨hpos, hpb⟩, hzc⟩ := hc
          have hpos := blt_iff.1 hpos
          have hpb := blt_iff.1 hpb
          have hzc : te.zero.cells.size = te.size := Nat.eq_of_beq_eq_true hzc
          obtain ⟨_, i0, hi0, hi1, hi2, hi3⟩ := tyOf_spec hE
          have htu : P.underlying T = some (.slice e) := by rw [(tyOf_spec hT).1, hd]
          split at h
          · rename_i m ys hsr
            obtain ⟨hyc, hyl, hsrc⟩ := srX_sound hw hpos (hev x) hsr
            have hs := hev s
            have czero : ∀ k, (Builtin.zeroCells te.zero.cells k).size = k * te.size := fun k => by rw [size_zeroCells, hzc]
            split at h
            · rename_i hsv
              rw [hsv] at hs
              have hs := RD_lit hs
              split at h
              · simp only [Option.some.injEq, Prod.mk.injEq] at h
                obtain ⟨rfl, rfl, rfl⟩ := h
                rcases hsrc with ⟨hx, _, _⟩ | ⟨a, c, news, hx, hl, _, hcell⟩
                · refine ⟨_, w, E, ?_, ⟨rfl, rfl⟩, hw, Agr.refl _ _, Nat.le_refl _⟩
                  rw [hs, hx]
                  have := run_append_owned_none (P := P) (w := w) 0 T t e i0 te.size htu hi0 (.slice none 0 0) 0 [] (World.ownsRow_nil _ _ _ _)
                  exact this
                · refine ⟨_, w, E, ?_, ⟨rfl, rfl⟩, hw, Agr.refl _ _, Nat.le_refl _⟩
                  rw [hs, hx]
                  simp [Builtin.append_, run_underlying htu, sizeOf, typeInfo, hi0, Builtin.lenOf, Builtin.firstCells, loadCells, loadCellsFrom]
              · rename_i m'
                split at h
                · rename_i hre
                  have hre : (m' + 1) * te.bytes ≤ Rp.reach := Nat.le_of_ble_eq_true hre
                  simp only [Option.some.injEq, Prod.mk.injEq] at h
                  obtain ⟨rfl, rfl, rfl⟩ := h
                  rcases hsrc with ⟨_, h0, _⟩ | ⟨a, c, news, hx, hl, hnews, hcell⟩
                  · cases h0
                  · have hmb : (m' + 1) * 1 ≤ (m' + 1) * te.bytes := Nat.mul_le_mul_left _ hpb
                    have hml : m' + 1 ≤ maxLen := by unfold Rp.reach at hre; unfold maxLen; omega
                    have hrun := run_append_nil (P := P) w T t e i0 te.zero htu hi0 hi3 a (m' + 1) c news (by rw [hi1]; exact hl) hcell (by omega) (by unfold maxLen at hml; omega) (by rw [hi2]; unfold Rp.reach at hre; omega)
                    have hge := grownCap_ge w (m' + 1) 0 e
                    have hcm : grownCap w (m' + 1) 0 e ≤ maxLen := grownCap_le_maxLen w (m' + 1) 0 e hml
                    obtain ⟨E', k1, k2, k3⟩ := hw.new (w' := w.drew.alloc (.cells (news.toArray ++ Builtin.zeroCells te.zero.cells (grownCap w (m' + 1) 0 e - (m' + 1))) e)) (c := news.toArray ++ Builtin.zeroCells te.zero.cells (grownCap w (m' + 1) 0 e - (m' + 1))) (T := e) (cs := ys) hpos hyc hyl
                      (cap := grownCap w (m' + 1) 0 e) (by rw [Array.size_append, czero, List.size_toArray, hl, ← Nat.add_mul]; congr 1; omega) hcm
                      (by rw [Array.toList_append, ← RVs_length hnews]; rw [List.take_left]; exact hnews)
                      ((Below.refl _ _).drew.alloc (Nat.le_refl _) _) (alloc_at w.drew _)
                    refine ⟨_, _, E', by rw [hs, hx]; exact hrun, .inr ⟨by rw [k2], by rw [k2]; simpa using hge, 0, by rw [k2]; rfl, fun _ => by rw [k2]; simp⟩, k1, k3, by omega⟩
                · cases h
            · rename_i id len hsv
              rw [hsv] at hs
              split at h
              · rename_i b hg
                split at h
                · rename_i hcc
                  simp only [Bool.and_eq_true] at hcc
                  obtain ⟨⟨⟨hfl, hbT⟩, hbn⟩, hre⟩ := hcc
                  
                  have hbT : b.T = e := Nat.eq_of_beq_eq_true hbT
                  have hbn : b.n = te.size := Nat.eq_of_beq_eq_true hbn
                  have hre : (len + m) * te.bytes ≤ Rp.reach := Nat.le_of_ble_eq_true hre
                  have hmb : (len + m) * 1 ≤ (len + m) * te.bytes := Nat.mul_le_mul_left _ hpb
                  have hml : len + m ≤ maxLen := by unfold Rp.reach at hre; unfold maxLen; omega
                  have hcapn := (hw.hold id b hg).capn
                  have hid := (hw.lt id b hg).1
                  obtain ⟨g1, g2, g3, g4, g5, cc, g6, g7, g8, g9⟩ := hw.hold id b hg
                  rcases hs with ⟨h1, _⟩ | ⟨_, h2, aa, h4, h5⟩
                  · rw [g1] at h1; cases h1
                  · have ha := h5 (.inl rfl)
                    rw [g2, Nat.zero_mul, Nat.add_zero] at ha
                    subst ha
                    rw [Nat.zero_add] at h2
                    rw [Nat.sub_zero] at h4
                    rw [hbT] at g6
                    rw [hbn] at g7 hcapn
                    have place : ∀ (a : Addr) (c : Nat) (news : List Value), ρ x = .slice (some a) m c → news.length = m * te.size → RVs E w ys news → (∀ j u, news[j]? = some u → w.cell? (a.add j) = some u) → len * te.size ≤ b.cs.length → len + m ≤ (E.loc id).cap →
                        ∃ w', (Builtin.append_ #[T, T] t #[ρ s, ρ x]).run P w = .ok (.slice (some ⟨(E.loc id).b, 0, none⟩) (len + m) (E.loc id).cap) w' ∧ XW C nx (H.put id ⟨b.T, b.n, setL b.cs (len * te.size) ys⟩) E w' := by
                      intro a c news hx hl hnews hcell hlb hroom
                      have hfit : len * te.size + news.length ≤ cc.size := by rw [hl, g7, ← Nat.add_mul]; exact Nat.mul_le_mul_right _ hroom
                      have hrun := run_append_room (P := P) w T t e i0 htu hi0 (E.loc id).b len (E.loc id).cap cc g6 a m c news (by rw [hi1]; exact hl) hcell (RVs_cell hnews hyc) hroom (by rw [hi1]; exact hfit)
                      rw [hi1] at hrun
                      refine ⟨_, by rw [h4, hx]; exact hrun, ?_⟩
                      have hq := setRow_heap w (E.loc id).b cc (cc.toList.take (len * te.size) ++ news ++ cc.toList.drop (len * te.size + news.length)).toArray e (0, 0) g6
                      exact hw.wr hfl hg (by rw [hbT]; exact g6) hlb (by omega) hyc hyl hnews (Rp.grownBy_setRow _ _ _) (by rw [hbT]; exact hq) (by simp [List.append_assoc])
                    split at h
                    · rename_i hfit
                      have hfit : (len + m) * te.size ≤ b.cs.length := Nat.le_of_ble_eq_true hfit
                      simp only [Option.some.injEq, Prod.mk.injEq] at h
                      obtain ⟨rfl, rfl, rfl⟩ := h
                      have hroom : len + m ≤ (E.loc id).cap := Nat.le_of_mul_le_mul_right (Nat.le_trans hfit hcapn) hpos
                      have hlb : len * te.size ≤ b.cs.length := Nat.le_trans (Nat.mul_le_mul_right _ (Nat.le_add_right _ _)) hfit
                      have hres : ∀ w', RV E w' (.ref id 0 (len + m)) (.slice (some ⟨(E.loc id).b, 0, none⟩) (len + m) (E.loc id).cap) := fun w' => .inr ⟨g1, by omega, 0, by rw [Nat.sub_zero], fun _ => by rw [g2]; simp⟩
                      rcases hsrc with ⟨hx, hm0, rfl⟩ | ⟨a, c, news, hx, hl, hnews, hcell⟩
                      · subst hm0
                        refine ⟨.slice (some ⟨(E.loc id).b, 0, none⟩) len (E.loc id).cap, w, E, ?_, hres w, ?_, Agr.refl _ _, Nat.le_refl _⟩
                        · rw [h4, hx]
                          simp [Builtin.append_, run_underlying htu, sizeOf, typeInfo, hi0, Builtin.lenOf, Builtin.firstCells, loadCells, h2, storeCells]
                        · have := hw.upd hfl hg (w' := w) (c := cc) (c' := cc) (cs := setL b.cs (len * te.size) []) (by rw [hbT]; exact g6) (setL_cell g5 (fun c hc => by cases hc)) (setL_lt (hw.lt id b hg).2 rfl) rfl (by
                            have e1 : setL b.cs (len * te.size) [] = b.cs := by simp [setL]
                            rw [e1]; exact g9) ⟨rfl, rfl, rfl, Nat.le_refl _, fun _ _ _ => rfl⟩ (by rw [hbT]; exact g6)
                          exact this
                      · obtain ⟨w', k1, k2⟩ := place a c news hx hl hnews hcell hlb hroom
                        exact ⟨_, w', E, k1, hres w', k2, Agr.refl _ _, Nat.le_refl _⟩
                    · split at h
                      · rename_i hnfit _ heq
                        have heq : len * te.size = b.cs.length := Nat.eq_of_beq_eq_true heq
                        have hnfit : ¬ (len + m) * te.size ≤ b.cs.length := fun hle => by rw [Nat.ble_eq_true_of_le hle] at hnfit; cases hnfit
                        simp only [Option.some.injEq, Prod.mk.injEq] at h
                        obtain ⟨rfl, rfl, rfl⟩ := h
                        have hm0 : m ≠ 0 := fun e => hnfit (by rw [e, Nat.add_zero, heq]; exact Nat.le_refl _)
                        rcases hsrc with ⟨_, hm, _⟩ | ⟨a, c, news, hx, hl, hnews, hcell⟩
                        · exact absurd hm hm0
                        · by_cases hroom : len + m ≤ (E.loc id).cap
                          · obtain ⟨w', k1, k2⟩ := place a c news hx hl hnews hcell (by omega) hroom
                            have e1 : setL b.cs (len * te.size) ys = b.cs ++ ys := by
                              unfold setL
                              rw [heq, List.take_length, List.drop_eq_nil_of_le (by omega), List.append_nil]
                            rw [e1] at k2
                            obtain ⟨E', q1, q2, q3⟩ := k2.ren hfl (id := id) (b := ⟨b.T, b.n, b.cs ++ ys⟩) (by rw [Tr.get_put, if_pos rfl])
                            have e2 : ∀ j, (((H.put id ⟨b.T, b.n, b.cs ++ ys⟩).del id).put nx ⟨b.T, b.n, b.cs ++ ys⟩).get j = ((H.del id).put nx ⟨e, te.size, b.cs ++ ys⟩).get j := fun j => by
                              rw [Tr.get_put, Tr.get_put, hbT, hbn]
                              split
                              · rfl
                              · rw [Tr.get_del, Tr.get_del, Tr.get_put]
                                split
                                · rfl
                                · rfl
                            refine ⟨_, w', E', k1, .inr ⟨by rw [q2]; exact g1, by rw [q2]; omega, 0, by rw [q2, Nat.sub_zero], fun _ => by rw [q2, g2]; simp⟩, ?_, q3, by omega⟩
                            exact ⟨fun i x hi => q1.hold i x (by rw [e2]; exact hi), fun i x hi => q1.lt i x (by rw [e2]; exact hi), fun i j hi hj => q1.inj i j (by rw [e2]; exact hi) (by rw [e2]; exact hj), fun i hf hi => q1.mine i hf (by rw [e2]; exact hi), q1.z, q1.xs, q1.below, fun i hi => by rw [← e2]; exact q1.kp i hi⟩
                          · have hlo : (cc.toList.take (len * te.size)).length = len * te.size := by
                              rw [List.length_take, Array.length_toList, g7]
                              exact Nat.min_eq_left (Nat.mul_le_mul_right _ h2)
                            have holds : ∀ j u, (cc.toList.take (len * te.size))[j]? = some u → w.cell? ((⟨(E.loc id).b, 0, none⟩ : Addr).add j) = some u := rangeAt_add (take_range g6 _)
                            have hrun := run_append_grow (P := P) w T t e i0 te.zero htu hi0 hi3 ⟨(E.loc id).b, 0, none⟩ len (E.loc id).cap (cc.toList.take (len * te.size)) (by rw [hi1]; exact hlo) holds a m c news (by rw [hi1]; exact hl) hcell (by omega) (by unfold maxLen at hml; omega) (growslice_fits (by omega) (by rw [hi2]; exact hre))
                            have hge := grownCap_ge w (len + m) (E.loc id).cap e
                            have hcm : grownCap w (len + m) (E.loc id).cap e ≤ maxLen := grownCap_le_maxLen w (len + m) (E.loc id).cap e hml
                            rw [← heq] at g9
                            have hall := RVs_append g9 hnews
                            have hlen := RVs_length hall
                            obtain ⟨E', k1, k2, k3⟩ := (hw.del (okW_iff hfl).2).new (w' := w.drew.alloc (.cells ((cc.toList.take (len * te.size)).toArray ++ news.toArray ++ Builtin.zeroCells te.zero.cells (grownCap w (len + m) (E.loc id).cap e - (len + m))) e)) (c := (cc.toList.take (len * te.size)).toArray ++ news.toArray ++ Builtin.zeroCells te.zero.cells (grownCap w (len + m) (E.loc id).cap e - (len + m))) (T := e) (n := te.size) (cs := b.cs ++ ys) hpos
                              (fun c hc => (List.mem_append.1 hc).elim (g5 c) (hyc c)) (by
                                have q1 := (hw.lt id b hg).2
                                rw [ltL_iff] at q1 hyl ⊢
                                exact fun c hc => (List.mem_append.1 hc).elim (q1 c) (hyl c))
                              (cap := grownCap w (len + m) (E.loc id).cap e) (by
                                rw [Array.size_append, Array.size_append, czero, List.size_toArray, List.size_toArray, hl, hlo, ← Nat.add_mul, ← Nat.add_mul]; congr 1; omega) hcm
                              (by
                                rw [Array.toList_append, Array.toList_append]
                                have : (b.cs ++ ys).length = (cc.toList.take (len * te.size) ++ news).length := hlen.symm
                                rw [this]
                                show RVs E w (b.cs ++ ys) (List.take (cc.toList.take (len * te.size) ++ news).length ((cc.toList.take (len * te.size) ++ news) ++ _))
                                rw [List.take_left]; exact hall)
                              ((Below.refl _ _).drew.alloc (Nat.le_refl _) _) (alloc_at w.drew _)
                            refine ⟨_, _, E', by rw [h4, hx]; exact hrun, .inr ⟨by rw [k2], by rw [k2]; simpa using hge, 0, by rw [k2]; rfl, fun _ => by rw [k2]; simp⟩, k1, k3, by omega⟩
                      · cases h
                · cases h
              · cases h
            · cases h
          · cases h
        · cases h
    · cases h
end
end Go.Xm
end
section
namespace Go.Xm
open Go.Ab Go.RowKit
section
variable {P : Program} {C : Cx} {nx nt : Nat} {sl : Tr V} {H : XH} {E : Env} {w : World}
theorem zeroL_litL {z : Value} : ∀ n, zeroL (litL z) n = ((List.replicate n z.cells.toList).flatten).map fun c => V.d (.lit c)
  | 0 => rfl
  | n + 1 => by rw [zeroL, zeroL_litL n, List.replicate_succ, List.flatten_cons, List.map_append]; rfl
theorem zeroL_cell {z : Value} (n : Nat) : ∀ x ∈ zeroL (litL z) n, x.cell = true := fun x hx => by
  rw [zeroL_litL] at hx
  obtain ⟨y, _, rfl⟩ := List.mem_map.1 hx
  rfl
theorem zeroL_lt {z : Value} (n nx : Nat) : ltL nx (zeroL (litL z) n) = true := by
  rw [ltL_iff]
  intro x hx
  rw [zeroL_litL] at hx
  obtain ⟨y, _, rfl⟩ := List.mem_map.1 hx
  rfl
theorem new_ptr (hw : XW C nx H E w) {T n : Nat} {cs : List V} {c : Array Value} {p : XH × Nat} (h : newX nx H T n cs = some p) (hs : c.size = n) (hcs : cs.length = n) (hv : RVs E w cs c.toList) :
    ∃ E', RV E' (w.alloc (.cells c T)) (.ptr nx 0 0) (.pointer (some ⟨w.heap.size, 0, none⟩)) ∧ XW C p.2 p.1 E' (w.alloc (.cells c T)) ∧ Agr nx E E' ∧ nx ≤ p.2 := by
  obtain ⟨h1, h2, h3, rfl⟩ := newX_some h
  obtain ⟨E', k1, k2, k3⟩ := hw.new (c := c) (T := T) (n := n) (cap := 1) h1 h2 h3 (by omega) (by unfold maxLen; omega) (by rw [hcs, List.take_of_length_le (by simp; omega)]; exact hv) (alloc_below w _) (alloc_at w _)
  exact ⟨E', ⟨by rw [k2], by rw [k2]; simp⟩, k1, k3, Nat.le_succ _⟩
theorem new_row (hw : XW C nx H E w) {T n len cap : Nat} {cs : List V} {c : Array Value} {p : XH × Nat} (h : newX nx H T n cs = some p) (hs : c.size = cap * n) (hcap : len ≤ cap) (hm : cap ≤ maxLen) (hv : RVs E w cs (c.toList.take cs.length)) :
    ∃ E', RV E' (w.alloc (.cells c T)) (.ref nx 0 len) (.slice (some ⟨w.heap.size, 0, none⟩) len cap) ∧ XW C p.2 p.1 E' (w.alloc (.cells c T)) ∧ Agr nx E E' ∧ nx ≤ p.2 := by
  obtain ⟨h1, h2, h3, rfl⟩ := newX_some h
  obtain ⟨E', k1, k2, k3⟩ := hw.new (c := c) (T := T) (n := n) (cap := cap) h1 h2 h3 hs hm hv (alloc_below w _) (alloc_at w _)
  exact ⟨E', .inr ⟨by rw [k2], by rw [k2]; simpa using hcap, 0, by rw [k2]; rfl, fun _ => by rw [k2]; simp⟩, k1, k3, Nat.le_succ _⟩
theorem clX_sound (hw : XW C nx H E w) {ρ : Operand → Value} (hev : ∀ x, RV E w ((stOf nt sl H).ev x) (ρ x)) {T t : TypeId} {s : Operand} {v : V} {H' : XH} {nx' : Nat} (h : clX (tyOf P) (stOf nt sl H) H C.pr nx T s = some (v, H', nx')) :
    ∃ w', (Builtin.clear_ #[T] t #[ρ s]).run P w = .ok (.tuple #[]) w' ∧ v = .tup [] ∧ XW C nx' H' E w' ∧ nx' = nx := by
  unfold clX at h
  cases hT : tyOf P T with
  | none => simp [hT] at h
  | some ti =>
    simp only [hT, Option.bind_some] at h
    split at h
    · rename_i e hd
      cases hE : tyOf P e with
      | none => simp [hE] at h
      | some te =>
        simp only [hE, Option.bind_some] at h
        split at h
        · rename_i hc
          simp only [Bool.and_eq_true] at hc
          obtain ⟨hzs, hzp⟩ := hc
          have hzs : te.zero.cells.size = te.size := Nat.eq_of_beq_eq_true hzs
          have hs := hev s
          split at h
          · rename_i id off len hsv
            rw [hsv] at hs
            split at h
            · rename_i b hg
              split at h
              · rename_i hcc
                simp only [Bool.and_eq_true] at hcc
                obtain ⟨⟨⟨⟨hfl, hbT⟩, hbn⟩, hpos⟩, hle⟩ := hcc
                
                have hbT : b.T = e := Nat.eq_of_beq_eq_true hbT
                have hbn : b.n = te.size := Nat.eq_of_beq_eq_true hbn
                have hpos : 0 < len := blt_iff.1 hpos
                have hle : (off + len) * te.size ≤ b.cs.length := Nat.le_of_ble_eq_true hle
                simp only [Option.some.injEq, Prod.mk.injEq] at h
                obtain ⟨rfl, rfl, rfl⟩ := h
                have hcapn := (hw.hold id b hg).capn
                obtain ⟨g1, g2, g3, g4, g5, cc, g6, g7, g8, g9⟩ := hw.hold id b hg
                rcases hs with ⟨h1, _⟩ | ⟨_, h2, aa, h4, h5⟩
                · rw [g1] at h1; cases h1
                · have ha := h5 (.inr (by omega))
                  rw [g2, g3, hbn, Nat.zero_add] at ha
                  subst ha
                  rw [hbT] at g6
                  rw [hbn] at g7 hcapn
                  obtain ⟨hu, i0, hi0, hi1, hi2, hi3⟩ := tyOf_spec hE
                  have htu : P.underlying T = some (.slice e) := by rw [(tyOf_spec hT).1, hd]
                  have hzl : (Builtin.zeroCells te.zero.cells len).size = len * te.size := by simp [Builtin.zeroCells, hzs]
                  have hrz : RVs E w (zeroL (litL te.zero) len) (Builtin.zeroCells te.zero.cells len).toList := by
                    have := RVs_zero (E := E) (w := w) (zc := litL te.zero) (z := te.zero.cells) (RVs_lits hzp) len
                    exact this
                  have hcell : ∀ v ∈ (Builtin.zeroCells te.zero.cells len).toList, v.oneCell' = true := RVs_cell hrz (zeroL_cell len)
                  have hend : off * te.size + len * te.size ≤ b.cs.length := by rw [← Nat.add_mul]; exact hle
                  have hrun := Rp.run_clear_row (P := P) w T t e te.zero (E.loc id).b (off * te.size) len ((E.loc id).cap - off) cc htu (fun w => Ab.run_zero hE w) (by omega) g6 (by rw [hzl, g7]; exact Nat.le_trans hend hcapn) hcell
                  have z1 := setRow_heap w (E.loc id).b cc (Rp.splice cc.toList (off * te.size) (Builtin.zeroCells te.zero.cells len).toList).toArray e (0, 0) g6
                  refine ⟨_, by rw [h4]; exact hrun, rfl, ?_, rfl⟩
                  exact hw.wr hfl hg (by rw [hbT]; exact g6) (us := (Builtin.zeroCells te.zero.cells len).toList) (by omega) (by rw [Array.length_toList, hzl, g7]; exact Nat.le_trans hend hcapn) (zeroL_cell len) (zeroL_lt len nx) hrz (Rp.grownBy_setRow _ _ _) (by rw [hbT]; exact z1) (by simp [Rp.splice])
              · cases h
            · cases h
          · cases h
        · cases h
    · cases h
theorem eX_sound (hw : XW C nx H E w) {ρ : Operand → Value} (hev : ∀ x, RV E w ((stOf nt sl H).ev x) (ρ x)) {o : Op} {oo : Oper} (ho : oo.op = o) {v : V} {H' : XH} {nx' : Nat} (h : eX (tyOf P) (stOf nt sl H) H C.pr nx o = some (v, H', nx')) :
    ESound P C nx E w (execOp ρ oo) v H' nx' := by
  unfold ESound execOp
  rw [ho]
  unfold eX at h
  split at h
  · -- box
    rename_i T x
    cases hn : newX nx H T (cellsV ((stOf nt sl H).ev x)).length (cellsV ((stOf nt sl H).ev x)) with
    | none => rw [hn, Option.map_none] at h; cases h
    | some p =>
      rw [hn, Option.map_some, Option.some.injEq, Prod.mk.injEq] at h
      obtain ⟨rfl, rfl⟩ := h
      obtain ⟨_, hcell, _, _⟩ := newX_some hn
      have hv := cellsV_sound (hev x) (List.all_eq_true.2 hcell)
      have hlen := RVs_length hv
      obtain ⟨E', k1, k2, k3, k4⟩ := new_ptr hw hn (c := (ρ x).cells) (by rw [← hlen]; simp) rfl hv
      have hrun : (Instr.box T (ρ x)).run P w = .ok (.pointer (some ⟨w.heap.size, 0, none⟩)) (w.alloc (.cells (ρ x).cells T)) := by simp [Instr.box, newVar, newRow]
      exact ⟨_, _, _, E', by simp only [Sem.run_bind, hrun, Result.andThen_ok, Sem.run_pure], .inl rfl, k1, k2, k3, k4⟩
  · -- alloc
    rename_i T
    cases hT : tyOf P T with
    | none => simp [hT] at h
    | some ti =>
      simp only [hT, Option.bind_some] at h
      split at h
      · rename_i hp
        cases hn : newX nx H T ti.zero.cells.size (litL ti.zero) with
        | none => rw [hn, Option.map_none] at h; cases h
        | some p =>
          rw [hn, Option.map_some, Option.some.injEq, Prod.mk.injEq] at h
          obtain ⟨rfl, rfl⟩ := h
          obtain ⟨E', k1, k2, k3, k4⟩ := new_ptr hw hn (c := ti.zero.cells) rfl (by simp [litL]) (RVs_lits hp)
          have hrun : (Instr.alloc T true (.tuple #[])).run P w = .ok (.pointer (some ⟨w.heap.size, 0, none⟩)) (w.alloc (.cells ti.zero.cells T)) := by simp [Instr.alloc, Ab.run_zero hT w, newVar, newRow]
          exact ⟨_, _, _, E', by simp only [Sem.run_bind, hrun, Result.andThen_ok, Sem.run_pure], .inl rfl, k1, k2, k3, k4⟩
      · cases h
  · -- store
    rename_i T p x
    cases hT : tyOf P T with
    | none => simp [hT] at h
    | some ti =>
      simp only [hT, Option.bind_some] at h
      have hp := hev p
      split at h
      · rename_i id off hpv
        rw [hpv] at hp
        split at h
        · rename_i b hg
          split at h
          · rename_i hc
            simp only [Bool.and_eq_true] at hc
            obtain ⟨⟨⟨hfl, h1⟩, h2⟩, h3⟩ := hc
            
            obtain ⟨hcell, hlt⟩ := okC_iff h1
            have h2 : (cellsV ((stOf nt sl H).ev x)).length = ti.size := Nat.eq_of_beq_eq_true h2
            have h3 : off + ti.size ≤ b.cs.length := Nat.le_of_ble_eq_true h3
            simp only [Option.some.injEq, Prod.mk.injEq] at h
            obtain ⟨rfl, rfl, rfl⟩ := h
            have hv := cellsV_sound (hev x) (List.all_eq_true.2 hcell)
            have hlen := RVs_length hv
            have hsz : (ρ x).cells.size = ti.size := by rw [← h2, ← hlen]; simp
            have hcapn := (hw.hold id b hg).capn
            obtain ⟨g1, g2, g3, g4, g5, cc, g6, g7, g8, g9⟩ := hw.hold id b hg
            obtain ⟨hn, hpp⟩ := hp
            simp only [g2, Nat.zero_mul, Nat.zero_add] at hpp
            have hend : off + (ρ x).cells.toList.length ≤ cc.size := by rw [Array.length_toList, hsz, g7]; omega
            have hrun := run_storeVar (P := P) (w := w) (b := (E.loc id).b) (o := off) (v := ρ x) hT hsz (RVs_cell hv hcell) (fun j hj => by
              have hjl : off + j < cc.size := by rw [hsz] at hj; omega
              refine ⟨?_, ?_⟩
              · simp [World.cell?, g6, hjl]
              · simp [World.frozen?, g6])
            obtain ⟨c', q1, q2⟩ := heap_setCells (E.loc id).b (ρ x).cells.toList off w cc g6 hend
            refine ⟨.skip, undef, _, E, ?_, .inr ⟨rfl, rfl⟩, ⟨[], rfl, rfl⟩, hw.wr hfl hg g6 (by omega) hend hcell hlt hv (grownBy_setCells _ _ _ _) q1 q2, Agr.refl _ _, Nat.le_refl _⟩
            simp only [hpp, Sem.run_bind, hrun, Result.andThen_ok, Sem.run_pure]
          · cases h
        · cases h
      · cases h
  · -- buildSlice
    rename_i T len parts
    cases hT : tyOf P T with
    | none => simp [hT] at h
    | some ti =>
      simp only [hT, Option.bind_some] at h
      split at h
      · rename_i e hd
        cases hE : tyOf P e with
        | none => simp [hE] at h
        | some te =>
          simp only [hE, Option.bind_some] at h
          split at h
          · rename_i hc
            simp only [Bool.and_eq_true] at hc
            obtain ⟨⟨⟨hb1, hb2⟩, hb3⟩, hb4⟩ := hc
            have hb1 : len * te.size ≤ 16777216 := Nat.le_of_ble_eq_true hb1
            have hb2 : te.zero.cells.size = te.size := Nat.eq_of_beq_eq_true hb2
            have hb4 : 0 < te.size := blt_iff.1 hb4
            split at h
            · rename_i r hr
              split at h
              · rename_i hrl
                have hrl : r.length = len * te.size := Nat.eq_of_beq_eq_true hrl
                cases hn : newX nx H e te.size r with
                | none => rw [hn, Option.map_none] at h; cases h
                | some p =>
                  rw [hn, Option.map_some, Option.some.injEq, Prod.mk.injEq] at h
                  obtain ⟨rfl, rfl⟩ := h
                  have hz := RVs_zero (E := E) (w := w) (zc := litL te.zero) (z := te.zero.cells) (RVs_lits hb3) len
                  rw [hb2] at hz
                  obtain ⟨c', k1, k2, k3⟩ := fillV_sound hev parts.toList _ _ r hz (zeroL_cell len) hr
                  have hcl := RVs_length k2
                  have hcs : c'.size = len * te.size := by rw [← hrl, ← hcl]; simp
                  have hlm : len ≤ maxLen := by
                    have : len * 1 ≤ len * te.size := Nat.mul_le_mul_left _ hb4
                    unfold maxLen; omega
                  obtain ⟨E', q1, q2, q3, q4⟩ := new_row hw hn (c := c') (cap := len) (len := len) hcs (Nat.le_refl _) hlm (by rw [← hcl, List.take_length]; exact k2)
                  have hrun : (Instr.buildSlice T len (parts.map fun (i, x) => (i, ρ x))).run P w = .ok (.slice (some ⟨w.heap.size, 0, none⟩) len len) (w.alloc (.cells c' e)) := by
                    have u1 := run_und hT w
                    rw [hd] at u1
                    have hm : (parts.map fun x => match x with | (i, x) => (i, ρ x)).toList = parts.toList.map fun p => (p.1, ρ p.2) := by simp
                    have n1 : ¬ 16777216 < len * te.size := by omega
                    rw [← hm] at k1
                    have hz0 : (zeroValue e).run P w = .ok te.zero w := Ab.run_zero hE w
                    by_cases hn0 : len * te.size = 0
                    · rw [hn0] at k1
                      have k1' : Instr.fill (fun i => some (i * te.size, te.size)) #[] (parts.map fun x => match x with | (i, x) => (i, ρ x)).toList = some c' := by
                        have hr0 : Array.range 0 = #[] := rfl
                        simpa [hr0] using k1
                      simp only [Instr.buildSlice, Sem.run_bind, u1, Result.andThen_ok, Ab.run_sizeOf hE w, hn0, if_true, show Array.range 0 = #[] from rfl, Array.map_empty]
                      simp only [Array.toList_map] at k1'
                      simp [k1', newRow]
                    · simp only [Instr.buildSlice, Sem.run_bind, u1, Result.andThen_ok, Ab.run_sizeOf hE w, n1, if_false, hn0, Sem.run_pure, hz0]
                      rw [hb2]
                      simp only [Array.toList_map] at k1
                      simp [k1, newRow]
                  exact ⟨_, _, _, E', by simp only [Sem.run_bind, hrun, Result.andThen_ok, Sem.run_pure], .inl rfl, q1, q2, q3, q4⟩
              · cases h
            · cases h
          · cases h
      · cases h
  · -- makeSlice
    rename_i T l c
    cases hT : tyOf P T with
    | none => simp [hT] at h
    | some ti =>
      simp only [hT, Option.bind_some] at h
      split at h
      · rename_i e k1 n k2 k hde hl hc
        cases hE : tyOf P e with
        | none => simp [hE] at h
        | some te =>
          simp only [hE, Option.bind_some] at h
          split at h
          · rename_i hcc
            obtain ⟨h0, h1, h2, h3, h4, h5, h7⟩ := hcc
            cases hn : newX nx H e te.size (zeroL (litL te.zero) k.toNat) with
            | none => rw [hn, Option.map_none] at h; cases h
            | some p =>
              rw [hn, Option.map_some, Option.some.injEq, Prod.mk.injEq] at h
              obtain ⟨rfl, rfl⟩ := h
              have el := hev l
              have ec := hev c
              rw [hl] at el; rw [hc] at ec
              have el := RD_lit el
              have ec := RD_lit ec
              obtain ⟨_, i0, hi0, hi1, hi2, hi3⟩ := tyOf_spec hE
              have htu : P.underlying T = some (.slice e) := by rw [(tyOf_spec hT).1, hde]
              have hkm : k.toNat ≤ Rp.reach := Nat.le_trans (Nat.le_mul_of_pos_right _ h3) h2
              unfold Rp.reach at hkm h2
              have hkk : (k.toNat : Int) = k := Int.toNat_of_nonneg (by omega)
              have hb48 : (i0.bytes : Int) * k ≤ 281474976710656 := by
                rw [hi2, ← hkk, ← Int.natCast_mul, Nat.mul_comm]
                omega
              have hrun := run_make (P := P) w T e i0 te.zero htu hi0 hi3 k1 k2 n k h0 h1 hb48 (by omega)
              rw [hi1] at hrun
              have hz := RVs_zero (E := E) (w := w) (zc := litL te.zero) (z := te.zero.cells) (RVs_lits h5) k.toNat
              have hzl : (zeroL (litL te.zero) k.toNat).length = (madeCells te.zero.cells (k.toNat * te.size)).size := by
                rw [zeroL_length, size_madeCells]; simp [litL, h4]
              have hz' : RVs E w (zeroL (litL te.zero) k.toNat) (madeCells te.zero.cells (k.toNat * te.size)).toList := by
                unfold madeCells
                rw [← h4]
                exact hz
              obtain ⟨E', q1, q2, q3, q4⟩ := new_row hw hn (c := madeCells te.zero.cells (k.toNat * te.size)) (cap := k.toNat) (len := n.toNat) (size_madeCells _ _) (by omega) (by unfold maxLen; omega) (by rw [hzl, ← Array.length_toList, List.take_length]; exact hz')
              exact ⟨_, _, _, E', by simp only [el, ec, Sem.run_bind, hrun, Result.andThen_ok, Sem.run_pure], .inl rfl, q1, q2, q3, q4⟩
          · cases h
      · cases h
  · -- call
    rename_i c
    split at h
    · rename_i hcal
      split at h
      · rename_i s x T T' hargs htys
        split at h
        · rename_i hTT
          have hTT : T = T' := Nat.eq_of_beq_eq_true hTT
          subst hTT
          have ha : c.args = #[s, x] := Array.ext' hargs
          have hty : c.argTypes = #[T, T] := Array.ext' htys
          obtain ⟨u, w', E', hrun, k1, k2, k3, k4⟩ := apX_sound (P := P) (t := oo.type) hw hev h
          refine ⟨_, u, w', E', ?_, .inl rfl, k1, k2, k3, k4⟩
          simp only [resolve, hcal, ha, hty, invoke, builtin, Sem.run_bind, Sem.run_pure, Result.andThen_ok, List.map_toArray, List.map_cons, List.map_nil, hrun]
        · cases h
      · cases h
    · rename_i hcal
      split at h
      · rename_i s T hargs htys
        have ha : c.args = #[s] := Array.ext' hargs
        have hty : c.argTypes = #[T] := Array.ext' htys
        obtain ⟨w', hrun, rfl, k2, rfl⟩ := clX_sound (P := P) (t := oo.type) hw hev h
        refine ⟨_, .tuple #[], w', E, ?_, .inl rfl, ⟨[], rfl, rfl⟩, k2, Agr.refl _ _, Nat.le_refl _⟩
        simp only [resolve, hcal, ha, hty, invoke, builtin, Sem.run_bind, Sem.run_pure, Result.andThen_ok, List.map_toArray, List.map_cons, List.map_nil, hrun]
      · cases h
    · cases h
  · cases h
end
end Go.Xm
end
