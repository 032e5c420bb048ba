/- The abstract machine: maps that a call has made. -/
import Derived.Test.YtabjbkdlacibjaaAb15
namespace Go.Ab
open Go.RowKit Go.MapKept

deriving instance DecidableEq for ByteArray
deriving instance DecidableEq for MKey

theorem MKey.inj {a b : MKey} (h : a.enc = b.enc) : a = b := by
  cases a <;> cases b <;> simp [MKey.enc] at h <;> simp [h]
theorem MKey.isKey (k : MKey) : IsKey k.desc k.enc := by cases k <;> simp [MKey.enc, MKey.desc, IsKey]

/-- look-up, store, delete -/
def klk (l : List (MKey × V)) (k : MKey) : Option V := (l.find? fun p => p.1 = k).map (·.2)
def kput (l : List (MKey × V)) (k : MKey) (v : V) : List (MKey × V) := if (klk l k).isSome then l.map (fun p => if p.1 = k then (k, v) else p) else l ++ [(k, v)]
def kdel (l : List (MKey × V)) (k : MKey) : List (MKey × V) := l.filter fun p => ¬ p.1 = k

theorem klk_nil (k : MKey) : klk [] k = none := rfl
theorem klk_cons (p : MKey × V) (l : List (MKey × V)) (k : MKey) : klk (p :: l) k = if p.1 = k then some p.2 else klk l k := by
  by_cases h : p.1 = k <;> simp [klk, List.find?_cons, h]
theorem klk_append (l r : List (MKey × V)) (k : MKey) : klk (l ++ r) k = (klk l k).or (klk r k) := by
  induction l with
  | nil => simp [klk_nil]
  | cons p l ih =>
    rw [List.cons_append, klk_cons, klk_cons, ih]
    by_cases h : p.1 = k <;> simp [h]
theorem klk_map (l : List (MKey × V)) (k k' : MKey) (v : V) : klk (l.map (fun p => if p.1 = k then (k, v) else p)) k' = if k = k' then (klk l k').map (fun _ => v) else klk l k' := by
  induction l with
  | nil => simp [klk_nil]
  | cons p l ih =>
    rw [List.map_cons, klk_cons, klk_cons, ih]
    by_cases h : p.1 = k
    · by_cases h2 : k = k'
      · simp [h, h2]
      · simp [h, h2]
    · have e : (if p.1 = k then (k, v) else p) = p := if_neg h
      rw [e]
      by_cases h2 : p.1 = k'
      · have hn : ¬ k = k' := fun e => h (h2.trans e.symm)
        simp only [h2, if_true, hn, if_false]
      · simp only [h2, if_false]
theorem klk_put (l : List (MKey × V)) (k k' : MKey) (v : V) : klk (kput l k v) k' = if k = k' then some v else klk l k' := by
  unfold kput
  cases h : klk l k with
  | some u =>
    rw [if_pos (by simp), klk_map]
    by_cases h2 : k = k'
    · subst h2; simp [h]
    · simp [h2]
  | none =>
    rw [if_neg (by simp), klk_append, klk_cons, klk_nil]
    by_cases h2 : k = k'
    · subst h2; simp [h]
    · simp [h2]
theorem klk_del (l : List (MKey × V)) (k k' : MKey) : klk (kdel l k) k' = if k = k' then none else klk l k' := by
  induction l with
  | nil => simp [klk_nil, kdel]
  | cons p l ih =>
    unfold kdel at *
    by_cases h : p.1 = k
    · rw [List.filter_cons_of_neg (by simpa using h), ih, klk_cons]
      by_cases h2 : k = k'
      · simp [h2]
      · have : ¬ p.1 = k' := fun e => h2 (h.symm.trans e)
        simp [h2, this]
    · rw [List.filter_cons_of_pos (by simpa using h), klk_cons, klk_cons, ih]
      by_cases h2 : k = k'
      · have : ¬ p.1 = k' := fun e => h (e.trans h2.symm)
        simp [h2, this]
      · simp [h2]

theorem REs_keys {E : Env} {w : World} {kd : TypeDesc} : ∀ {l : List (MKey × V)} {es : List MapEntry}, REs E w l es → (∀ p ∈ l, p.1.desc = kd) → ∀ x ∈ es, IsKey kd x.key
  | [], es, h, _, x, hx => by
    have : es = [] := h
    rw [this] at hx; cases hx
  | (k, v) :: l, es, ⟨e, r, h, h1, h2, h3, h4⟩, hk, x, hx => by
    subst h
    rcases List.mem_cons.1 hx with rfl | hx
    · rw [h1, ← hk (k, v) (.head _)]; exact k.isKey
    · exact REs_keys h4 (fun p hp => hk p (.tail _ hp)) x hx

/-- finding a key among the entries -/
theorem REs_find {E : Env} {w : World} {kd : TypeDesc} {k : MKey} (hkd : k.desc = kd) : ∀ {l : List (MKey × V)} {es : List MapEntry} (i : Nat), REs E w l es → (∀ p ∈ l, p.1.desc = kd) →
    (Instr.findNow kd k.enc es i = some none ∧ klk l k = none ∧ ∀ x ∈ es, x.key ≠ k.enc) ∨
    ∃ j e v, Instr.findNow kd k.enc es i = some (some (i + j, e.val)) ∧ es[j]? = some e ∧ e.key = k.enc ∧ klk l k = some v ∧ RV E w v e.val ∧ v.closed = true ∧ ∃ q, l[j]? = some (q, v) ∧ q = k
  | [], es, i, h, _ => by
    have : es = [] := h
    subst this
    exact .inl ⟨rfl, rfl, fun x hx => by cases hx⟩
  | (q, v) :: l, es, i, ⟨e, r, h, h1, h2, h3, h4⟩, hk => by
    subst h
    have hq : IsKey kd e.key := by rw [h1, ← hk (q, v) (.head _)]; exact q.isKey
    have hkk : IsKey kd k.enc := by rw [← hkd]; exact k.isKey
    obtain ⟨b, hb, hiff⟩ := sameNow_of_keys hkk hq
    cases b with
    | true =>
      have he := hiff.1 rfl
      have hqk : q = k := MKey.inj (by rw [← h1, he])
      refine .inr ⟨0, e, v, by simp [Instr.findNow, hb], rfl, he.symm, by rw [klk_cons, if_pos hqk], h2, h3, q, rfl, hqk⟩
    | false =>
      have hne : ¬ q = k := fun e2 => by have := hiff.2 (by rw [h1, e2]); cases this
      have hl : klk ((q, v) :: l) k = klk l k := by rw [klk_cons, if_neg hne]
      rcases REs_find hkd (l := l) (es := r) (i + 1) h4 (fun p hp => hk p (.tail _ hp)) with ⟨g1, g2, g3⟩ | ⟨j, e', v', g1, g2, g3, g4, g5, g6, q', g7, g8⟩
      · refine .inl ⟨by simp [Instr.findNow, hb, g1], by rw [hl, g2], fun x hx => ?_⟩
        rcases List.mem_cons.1 hx with rfl | hx
        · rw [h1]; exact fun e2 => hne (MKey.inj e2)
        · exact g3 x hx
      · refine .inr ⟨j + 1, e', v', ?_, by simpa using g2, g3, by rw [hl, g4], g5, g6, q', by simpa using g7, g8⟩
        have e3 : i + 1 + j = i + (j + 1) := by omega
        rw [e3] at g1
        simp [Instr.findNow, hb, g1]

/-- a key's value -/
def keyV : V → Option MKey
  | .d (.lit (.int .i64 n)) => some (.ik n)
  | .d (.lit (.string s)) => some (.sk s)
  | .d (.lit (.bool b)) => some (.bk b)
  | _ => none
theorem keyV_sound {E : Env} {w : World} {x : V} {v : Value} (h : RV E w x v) {k : MKey} (hk : keyV x = some k) : v = k.enc := by
  unfold keyV at hk
  split at hk
  · injection hk with hk; subst hk; exact RD_lit h
  · injection hk with hk; subst hk; exact RD_lit h
  · injection hk with hk; subst hk; exact RD_lit h
  · cases hk

def descEq : TypeDesc → TypeDesc → Bool
  | .int .i64, .int .i64 => true
  | .string, .string => true
  | .bool, .bool => true
  | _, _ => false
theorem descEq_sound {a b : TypeDesc} (h : descEq a b = true) : a = b := by
  unfold descEq at h
  split at h <;> first | rfl | cases h

/-- a look-up: the value, and whether it is there -/
def lkV (ty : TypeId → Option TI) (H : Heap) (T : TypeId) (m i : V) : Option (V × Bool) :=
  match ty T with
  | some ti => match ti.desc with
    | .map kt et => match ty kt, ty et, keyV i with
      | some tk, some te, some k => if descEq tk.desc k.desc = true ∧ (litV te.zero).closed = true then (match m with
        | .mref id => match H id with
          | some (.mp kd l) => if descEq kd k.desc = true then (match klk l k with
            | some v => some (v, true)
            | none => some (litV te.zero, false)) else none
          | _ => none
        | .d (.lit (.map none)) => some (litV te.zero, false)
        | _ => none) else none
      | _, _, _ => none
    | _ => none
  | none => none

theorem lkV_sound {P : Program} {H : Heap} {T : TypeId} {m i : V} {mv iv : Value} {r : V} {b : Bool} {E : Env} {w : World} (ok : E.ok H w) (hm : RV E w m mv) (hi : RV E w i iv) (h : lkV (tyOf P) H T m i = some (r, b)) :
    ∃ x, RV E w r x ∧ ∀ w', Grow w w' → (Instr.lookup T mv iv false).run P w' = .ok x w' ∧ (Instr.lookup T mv iv true).run P w' = .ok (.tuple #[x, .bool b]) w' := by
  unfold lkV at h
  split at h
  · rename_i ti hT
    split at h
    · rename_i kt et hd
      split at h
      · rename_i tk te k hkt het hk
        split at h
        · rename_i hc
          obtain ⟨hc1, hc2⟩ := hc
          have hkd := descEq_sound hc1
          have hiv := keyV_sound hi hk
          subst hiv
          have hu : P.underlying T = some (.map kt et) := by rw [(tyOf_spec hT).1, hd]
          have huk : P.underlying kt = some k.desc := by rw [(tyOf_spec hkt).1, hkd]
          split at h
          · rename_i id
            have hmv : mv = .map (some (E.loc id).b) := hm
            subst hmv
            split at h
            · rename_i kd l hH
              split at h
              · rename_i hkd2
                have hkd2 := descEq_sound hkd2
                obtain ⟨hn, hkeys, es, clock, hb, hst, hre⟩ := ok.hold _ _ hH
                have hlt := (Array.getElem?_eq_some_iff.1 hb).1
                rcases REs_find (k := k) hkd2.symm 0 hre hkeys with ⟨g1, g2, g3⟩ | ⟨j, e, v, g1, g2, g3, g4, g5, g6, _⟩
                · rw [g2] at h
                  simp only [Option.some.injEq, Prod.mk.injEq] at h
                  obtain ⟨rfl, rfl⟩ := h
                  refine ⟨te.zero, litV_sound E w _, fun w' hg => ?_⟩
                  have hb' : w'.heap[(E.loc id).b]? = some (.map es clock) := (hg.block _ hlt).trans hb
                  rw [hkd2] at g1
                  constructor <;> simp [Instr.lookup, run_underlying hu, MapKept.run_getObj_map hb', MapKept.run_checkKey huk k.isKey, run_findKey huk g1, run_zero het w']
                · rw [g4] at h
                  simp only [Option.some.injEq, Prod.mk.injEq] at h
                  obtain ⟨rfl, rfl⟩ := h
                  refine ⟨e.val, g5, fun w' hg => ?_⟩
                  have hb' : w'.heap[(E.loc id).b]? = some (.map es clock) := (hg.block _ hlt).trans hb
                  rw [hkd2] at g1
                  constructor <;> simp [Instr.lookup, run_underlying hu, MapKept.run_getObj_map hb', MapKept.run_checkKey huk k.isKey, run_findKey huk g1]
              · cases h
            · cases h
          · obtain ⟨rfl, _⟩ := hm
            simp only [Option.some.injEq, Prod.mk.injEq] at h
            obtain ⟨rfl, rfl⟩ := h
            refine ⟨te.zero, litV_sound E w _, fun w' hg => ?_⟩
            have g1 : Instr.findNow k.desc k.enc [] 0 = some none := rfl
            constructor <;> simp [Instr.lookup, run_underlying hu, MapKept.run_checkKey huk k.isKey, run_findKey huk g1, run_zero het w']
          · cases h
        · cases h
      · cases h
    · cases h
  · cases h

/-- A LOOK-UP -/
theorem Chain.look {q : Bool} {P : Program} {ops : Array Oper} {o : Oper} {l : List Oper} {S : St} {Q : St → Prop} {T : TypeId} {m i : Operand} {c : Bool} {r : V} {b : Bool} (hw : wantedV ops S o = some true) (ho : o.op = .lookup T m i c) (hl : lkV (tyOf P) S.hp T (S.ev m) (S.ev i) = some (r, b))
    (h : Chain q P ops l (S.put o.dst (if c then .tup [r, .d (.lit (.bool b))] else r)) Q) : Chain q P ops (o :: l) S Q := by
  have go : ∀ fx a w E, Mod fx S E a w → ∃ x, RV E w (if c then .tup [r, .d (.lit (.bool b))] else r) x ∧ ∀ w', Grow w w' → (execOp a.eval o).run P w' = .ok (.value x) w' := by
    intro fx a w E md
    obtain ⟨x, hx, hrun⟩ := lkV_sound (P := P) md.ok (md.ev m) (md.ev i) hl
    cases c with
    | true => exact ⟨.tuple #[x, .bool b], ⟨[x, .bool b], rfl, x, [.bool b], rfl, hx, .bool b, [], rfl, ⟨rfl, rfl⟩, rfl⟩, fun w' hg => by unfold execOp; rw [ho]; simp [(hrun w' hg).2]⟩
    | false => exact ⟨x, hx, fun w' hg => by unfold execOp; rw [ho]; simp [(hrun w' hg).1]⟩
  cases q with
  | false =>
    intro fx a w Q' ⟨E, md⟩ hq
    obtain ⟨x, hx, hrun⟩ := go fx a w E md
    unfold wpList
    rw [if_pos (wantedV_sound md hw)]
    refine .inl ?_
    unfold Oper.wp
    rw [hrun w (Below.refl _ _)]
    exact h fx _ w Q' ⟨E, md.put o.dst hx⟩ hq
  | true =>
    intro fx a w Q' ⟨E, md⟩ hq
    obtain ⟨x, hx, hrun⟩ := go fx a w E md
    unfold wpQuiet
    rw [if_pos (wantedV_sound md hw)]
    refine ⟨x, fun w' hg => ?_, h fx _ w Q' ⟨E, md.put o.dst hx⟩ hq⟩
    unfold Oper.quietAt
    rw [hrun w' hg]
    exact ⟨rfl, rfl⟩

theorem grownBy_set (w : World) (b : Nat) (o : Obj) : w.grownBy { w with heap := w.heap.setIfInBounds b o } (some b) :=
  ⟨rfl, rfl, rfl, by simp, fun k hk hr => by
    show (w.heap.setIfInBounds b o)[k]? = _
    rw [Array.getElem?_setIfInBounds_ne (fun e => hr (by rw [e]))]⟩

theorem REs_push {E : Env} {w : World} {k : MKey} {v : V} {e : MapEntry} (hk : e.key = k.enc) (hv : RV E w v e.val) (hc : v.closed = true) : ∀ {l : List (MKey × V)} {es : List MapEntry}, REs E w l es → REs E w (l ++ [(k, v)]) (es ++ [e])
  | [], es, h => by
    have : es = [] := h
    subst this
    exact ⟨e, [], rfl, hk, hv, hc, rfl⟩
  | (q, u) :: l, es, ⟨e', r, h, h1, h2, h3, h4⟩ => by subst h; exact ⟨e', r ++ [e], rfl, h1, h2, h3, REs_push hk hv hc h4⟩

theorem REs_modify {E : Env} {w : World} {k : MKey} {v : V} {f : MapEntry → MapEntry} (hf : ∀ e, (f e).key = k.enc) : ∀ {l : List (MKey × V)} {es : List MapEntry} {j : Nat}, REs E w l es → (∀ e, es[j]? = some e → e.key = k.enc) → (es.map (·.key)).Nodup → j < es.length →
    (∀ e, RV E w v (f e).val) → v.closed = true → REs E w (l.map fun p => if p.1 = k then (k, v) else p) (es.modify j f)
  | [], es, j, h, _, _, hj, _, _ => by
    have : es = [] := h
    subst this
    simp at hj
  | (q, u) :: l, es, 0, ⟨e', r, h, h1, h2, h3, h4⟩, hk, hnd, _, hv, hc => by
    subst h
    have hkk := hk e' rfl
    have hq : q = k := MKey.inj (by rw [← h1, hkk])
    rw [List.map_cons, List.nodup_cons] at hnd
    have same : ∀ (l : List (MKey × V)) (r : List MapEntry), REs E w l r → e'.key ∉ r.map (·.key) → l.map (fun p => if p.1 = k then (k, v) else p) = l := by
      intro l
      induction l with
      | nil => intro r _ _; rfl
      | cons p l ih =>
        obtain ⟨a, b⟩ := p
        rintro r ⟨e2, r2, rfl, g1, g2, g3, g4⟩ hn
        have hne : ¬ a = k := fun e => hn (by rw [List.map_cons, g1, e, hkk]; exact .head _)
        rw [List.map_cons, if_neg hne, ih r2 g4 (fun h => hn (by rw [List.map_cons]; exact .tail _ h))]
    rw [List.map_cons, if_pos hq, same l r h4 hnd.1]
    exact ⟨f e', r, rfl, hf e', hv e', hc, h4⟩
  | (q, u) :: l, es, j + 1, ⟨e', r, h, h1, h2, h3, h4⟩, hk, hnd, hj, hv, hc => by
    subst h
    rw [List.map_cons, List.nodup_cons] at hnd
    have hj' : j < r.length := by simpa using hj
    have hq : ¬ q = k := fun e => by
      have := hk r[j] (by simp [hj'])
      exact hnd.1 (List.mem_map.2 ⟨r[j], List.getElem_mem hj', by rw [this, h1, e]⟩)
    rw [List.map_cons, if_neg hq]
    exact ⟨e', r.modify j f, rfl, h1, h2, h3, REs_modify hf h4 (fun e he => hk e (by simpa using he)) hnd.2 hj' hv hc⟩

/-- A STORE INTO A MAP -/
theorem Chain.mset {P : Program} {ops : Array Oper} {o : Oper} {l : List Oper} {S : St} {Q : St → Prop} {T : TypeId} {m i x : Operand} {id : Nat} {kd : TypeDesc} {es : List (MKey × V)} {k : MKey} {v : V} {kt et : TypeId} {ti tk : TI} (hw : wantedV ops S o = some true) (ho : o.op = .mapUpdate T m i x ∨ o.op = .insert T m i x)
    (hT : tyOf P T = some ti) (hd : ti.desc = .map kt et) (hkt : tyOf P kt = some tk) (hkd : tk.desc = kd) (hm : S.ev m = .mref id) (hH : S.hp id = some (.mp kd es)) (hk : keyV (S.ev i) = some k) (hkk : k.desc = kd) (hx : S.ev x = v) (hc : v.closed = true)
    (h : Chain false P ops l ((S.setH id (some (.mp kd (kput es k v)))).put o.dst (.tup [])) Q) : Chain false P ops (o :: l) S Q := by
  intro fx a w Q' ⟨E, md⟩ hq
  unfold wpList
  rw [if_pos (wantedV_sound md hw)]
  refine .inl ?_
  have hmv := md.ev m
  rw [hm] at hmv
  have hmv : a.eval m = .map (some (E.loc id).b) := hmv
  have hiv := keyV_sound (md.ev i) hk
  have hxv := md.ev x
  rw [hx] at hxv
  obtain ⟨hn, hkeys, mes, clock, hb, hst, hre⟩ := md.ok.hold _ _ hH
  have hu : P.underlying T = some (.map kt et) := by rw [(tyOf_spec hT).1, hd]
  have huk : P.underlying kt = some k.desc := by rw [(tyOf_spec hkt).1, hkd, hkk]
  have fin : ∀ mes' clock', (Instr.mapUpdate T (a.eval m) (a.eval i) (a.eval x)).run P w = .ok () { w with heap := w.heap.setIfInBounds (E.loc id).b (.map mes' clock') } → Stamped mes' clock' → REs E w (kput es k v) mes'.toList → (∀ p ∈ kput es k v, p.1.desc = kd) → o.wp P a w (wpList P ops Q' l) Q' := by
    intro mes' clock' hrun hst' hre' hkeys'
    have hg := grownBy_set w (E.loc id).b (.map mes' clock')
    have hkp : Keeps E.Z w { w with heap := w.heap.setIfInBounds (E.loc id).b (.map mes' clock') } := Keeps.grown md.ok hg fun b hb => by injection hb with hb; rw [← hb]; exact md.ok.apart id (by rw [hH]; simp) hn
    have m' := md.wr hH hn hg (blk := .mp kd (kput es k v)) ⟨hn, hkeys', mes', clock', (heap_set hb).1, hst', REs.keep hkp (fun _ h => h) rfl _ _ hre'⟩
    unfold Oper.wp execOp
    rcases ho with ho | ho <;>
    · simp only [ho, Sem.run_bind, hrun, Result.andThen_ok, Sem.run_pure, Oper.upon]
      exact h fx _ _ Q' ⟨E, m'.put o.dst ⟨[], rfl, rfl⟩⟩ hq
  rcases REs_find (k := k) hkk 0 hre hkeys with ⟨g1, g2, g3⟩ | ⟨j, e, u, g1, g2, g3, g4, g5, g6, q, g7, g8⟩
  · refine fin (mes.push { key := k.enc, val := a.eval x, born := clock }) (clock + 1) ?_ (stamped_push hst g3) ?_ ?_
    · rw [← hkk] at g1
      rw [hmv, hiv]
      simp [Instr.mapUpdate, run_underlying hu, MapKept.run_getObj_map hb, MapKept.run_checkKey huk k.isKey, run_findKey huk g1, MapKept.run_setObj_map _ hb]
    · have e : kput es k v = es ++ [(k, v)] := by simp [kput, g2]
      rw [e, Array.toList_push]
      exact REs_push rfl hxv hc hre
    · have e : kput es k v = es ++ [(k, v)] := by simp [kput, g2]
      rw [e]
      intro p hp
      rcases List.mem_append.1 hp with hp | hp
      · exact hkeys p hp
      · simp at hp; rw [hp]; exact hkk
  · rw [Nat.zero_add] at g1
    have hej : mes[j]? = some e := by simpa using g2
    refine fin (mes.modify j fun e => { e with key := k.enc, val := a.eval x }) clock ?_ (stamped_modify hst _ _ (fun _ _ => rfl) (fun e' _ he' => by rw [hej] at he'; injection he' with he'; subst he'; exact g3.symm)) ?_ ?_
    · rw [← hkk] at g1
      have hks : (Instr.keyThatStays e.key k.enc).run P w = .ok k.enc w := by
        rw [g3]
        exact run_keyThatStays k.isKey
      rw [hmv, hiv]
      simp [Instr.mapUpdate, run_underlying hu, MapKept.run_getObj_map hb, MapKept.run_checkKey huk k.isKey, run_findKey huk g1, MapKept.run_setObj_map _ hb, hej, hks]
    · have e1 : kput es k v = es.map (fun p => if p.1 = k then (k, v) else p) := by simp [kput, g4]
      rw [e1]
      have e2 : (mes.modify j fun e => { e with key := k.enc, val := a.eval x }).toList = mes.toList.modify j fun e => { e with key := k.enc, val := a.eval x } := by simp
      rw [e2]
      exact REs_modify (fun e => rfl) hre (fun e' he' => by rw [g2] at he'; injection he' with he'; rw [← he']; exact g3) hst.2.2 ((List.getElem?_eq_some_iff.1 g2).1) (fun _ => hxv) hc
    · have e1 : kput es k v = es.map (fun p => if p.1 = k then (k, v) else p) := by simp [kput, g4]
      rw [e1]
      intro p hp
      obtain ⟨p0, hp0, rfl⟩ := List.mem_map.1 hp
      split
      · exact hkk
      · exact hkeys p0 hp0

/-- A NEW MAP -/
theorem Chain.mmake {P : Program} {ops : Array Oper} {o : Oper} {l : List Oper} {S : St} {Q : St → Prop} {T : TypeId} {d : Nat} (kd : TypeDesc) (hw : wantedV ops S o = some true) (ho : o.op = .makeMap T none) (hd : o.dst = some d) (hid : S.rts.contains d = false)
    (h : Chain false P ops l (((S.kill d).setH d (some (.mp kd []))).put (some d) (.mref d)) Q) : Chain false P ops (o :: l) S Q := by
  intro fx a w Q' ⟨E, md⟩ hq
  unfold wpList
  rw [if_pos (wantedV_sound md hw)]
  refine .inl ?_
  have hid' : d ∉ S.rts := by simpa using hid
  have m' := md.re (row := none) hid' (World.grownBy_alloc w (.map #[] 0) none) (fun b hb => by cases hb) ⟨w.heap.size, 0, 0, 0, false⟩ (blk := .mp kd []) ⟨by simp [Env.at], (fun p hp => by cases hp), #[], 0, (by simp only [Env.at, if_true]; show (w.heap.push _)[w.heap.size]? = _; simp), stamped_empty 0, rfl⟩ (fun _ => .inr (Nat.le_refl _))
  have hrun : (Instr.makeMap T none).run P w = .ok (.map (some w.heap.size)) (w.alloc (.map #[] 0)) := by simp [Instr.makeMap, newObj, Sem.run]
  unfold Oper.wp execOp
  simp only [ho, Option.map_none, Sem.run_bind, hrun, Result.andThen_ok, Sem.run_pure, Oper.upon, hd]
  refine h fx _ _ Q' ⟨_, m'.put (some d) ?_⟩ hq
  show Value.map _ = Value.map _
  simp [Env.at]
attribute [simp] lkV keyV descEq
end Go.Ab
