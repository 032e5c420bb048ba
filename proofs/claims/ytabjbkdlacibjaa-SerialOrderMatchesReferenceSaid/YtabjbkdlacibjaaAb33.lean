/- Functional programs: maps as lists of pairs. -/
import Derived.Test.YtabjbkdlacibjaaAb32
namespace Go.Ab
open Go.RowKit

/-! ### own boxes become data -/
def V.lift (g : V → V) : V → V
  | .agg cs => if (cs.map g).all V.cell = true then .agg (cs.map g) else .junk
  | .tup cs => .tup (cs.map g)
  | .fn f cs => .fn f (cs.map g)
  | v => g v
def Blk.lift (g : V → V) : Blk → Option Blk
  | .box cs => if (cs.map g).all V.cell = true then some (.box (cs.map g)) else none
  | b => some b
def liftL (g : V → V) : List (Nat × V) → List (Nat × V)
  | [] => []
  | (k, v) :: r => (k, v.lift g) :: liftL g r
def liftH (id : Nat) (g : V → V) : List (Nat × Option Blk) → List (Nat × Option Blk)
  | [] => []
  | (k, b) :: r => (k, if k = id then none else b.bind (Blk.lift g)) :: liftH id g r
theorem look_liftL {g : V → V} (hj : g .junk = .junk) : ∀ (l : List (Nat × V)) (i : Nat), tlook (liftL g l) i = (tlook l i).lift g
  | [], _ => hj.symm
  | (k, v) :: r, i => by
    show (if i = k then v.lift g else tlook (liftL g r) i) = _
    rw [look_liftL hj r i]
    show _ = (if i = k then v else tlook r i).lift g
    split <;> rfl
theorem hlook_liftH (id : Nat) (g : V → V) : ∀ (l : List (Nat × Option Blk)) (i : Nat), hlook (liftH id g l) i = if i = id then none else (hlook l i).bind (Blk.lift g)
  | [], i => by simp [liftH, hlook]
  | (k, b) :: r, i => by
    show (if i = k then (if k = id then none else b.bind (Blk.lift g)) else hlook (liftH id g r) i) = _
    rw [hlook_liftH id g r i]
    show _ = if i = id then none else (if i = k then b else hlook r i).bind (Blk.lift g)
    by_cases h : i = k
    · subst h; simp
    · simp [h]
theorem RV.lift {E E' : Env} {w : World} {g : V → V} (hg : ∀ c v, RV E w c v → RV E' w (g c) v) : ∀ (c : V) (v : Value), RV E w c v → RV E' w (c.lift g) v := by
  intro c v h
  cases c with
  | agg cs =>
    show RV E' w (if _ then _ else _) v
    split
    · rename_i hall
      obtain ⟨vs, h1, h2, h3⟩ := h
      exact ⟨vs, h1, List.all_eq_true.1 hall, RVs.frz hg h3⟩
    · trivial
  | tup cs =>
    obtain ⟨vs, h1, h3⟩ := h
    exact ⟨vs, h1, RVs.frz hg h3⟩
  | fn f cs =>
    obtain ⟨vs, h1, h3⟩ := h
    exact ⟨vs, h1, RVs.frz hg h3⟩
  | ref i off len => exact hg _ _ h
  | d x => exact hg _ _ h
  | ptr id i off => exact hg _ _ h
  | mref id => exact hg _ _ h
  | dx es => exact hg _ _ h
  | hole => exact hg _ _ h
  | junk => exact hg _ _ h

theorem Sub.toZ {nt : Nat} {rts : List Nat} {l : List (Nat × V)} {h : List (Nat × Option Blk)} (id : Nat) (g : V → V) {blk : Blk} (hes : hlook h id = some blk) (hj : g .junk = .junk)
    (hg : ∀ (E : Env) (w : World), Hold E w id blk → ∀ E' : Env, E'.loc = E.loc → (∀ b, E.Z b → E'.Z b) → ((E.loc id).nil = false → E'.Z (E.loc id).b) → ∀ c v, RV E w c v → RV E' w (g c) v) : Sub (mk nt rts l h) (mk nt rts (liftL g l) (liftH id g h)) := .of fun fx a w E m => by
  have hold := m.ok.hold id _ hes
  have hz : ∀ b, E.Z b → (E.Z b ∨ ((E.loc id).nil = false ∧ b = (E.loc id).b)) := fun _ h => .inl h
  have hne : (mk nt rts l h).hp id ≠ none := by rw [show (mk nt rts l h).hp id = _ from hes]; simp
  have fr1 : ∀ c v, RV E w c v → RV { E with Z := fun b => E.Z b ∨ ((E.loc id).nil = false ∧ b = (E.loc id).b) } w (g c) v := fun c v hc => hg E w hold { E with Z := fun b => E.Z b ∨ ((E.loc id).nil = false ∧ b = (E.loc id).b) } rfl hz (fun hn => .inr ⟨hn, rfl⟩) c v hc
  have get : ∀ i, hlook (liftH id g h) i ≠ none → i ≠ id ∧ hlook h i ≠ none := fun i hi => by
    rw [hlook_liftH] at hi
    by_cases e : i = id
    · rw [if_pos e] at hi; exact absurd rfl hi
    · rw [if_neg e] at hi
      refine ⟨e, fun e2 => ?_⟩
      rw [e2] at hi; exact hi rfl
  refine ⟨{ E with Z := fun b => E.Z b ∨ ((E.loc id).nil = false ∧ b = (E.loc id).b) }, m.nt, fun t => ?_, m.dfr, ⟨fun i b hi => ?_, fun i j hi hj => m.ok.inj i j (get i hi).2 (get j hj).2, fun i hi hn hb => ?_, fun b hb => ?_⟩, m.frame, fun i hi => m.mine i (get i hi).2, fun b hb => ?_, m.roots⟩
  · have := RV.lift fr1 _ _ (m.slots t)
    show RV _ w (tlook (liftL g l) t) _
    rw [look_liftL hj]
    exact this
  · have hi' : hlook (liftH id g h) i = some b := hi
    rw [hlook_liftH] at hi'
    by_cases e : i = id
    · rw [if_pos e] at hi'; cases hi'
    · rw [if_neg e] at hi'
      cases hb : hlook h i with
      | none => rw [hb] at hi'; cases hi'
      | some b0 =>
        rw [hb] at hi'
        have hh := m.ok.hold i b0 hb
        cases b0 with
        | box cs =>
          have hi' : (if (cs.map g).all V.cell = true then some (Blk.box (cs.map g)) else none) = some b := hi'
          split at hi'
          · rename_i hall
            injection hi' with hi'
            subst hi'
            obtain ⟨hn, h1, vs, h2, h3, h4, h5⟩ := hh
            exact ⟨hn, List.all_eq_true.1 hall, vs, RVs.frz fr1 h2, h3, h4, h5⟩
          · cases hi'
        | arr T n es =>
          injection hi' with hi'
          subst hi'
          exact hh.keep (E' := { E with Z := fun b => E.Z b ∨ ((E.loc id).nil = false ∧ b = (E.loc id).b) }) (fun _ _ => rfl) hz rfl (fun _ => rfl) (Nat.le_refl _)
        | mp kd l =>
          injection hi' with hi'
          subst hi'
          exact hh.keep (E' := { E with Z := fun b => E.Z b ∨ ((E.loc id).nil = false ∧ b = (E.loc id).b) }) (fun _ _ => rfl) hz rfl (fun _ => rfl) (Nat.le_refl _)
  · obtain ⟨hne2, hi2⟩ := get i hi
    rcases hb with hb | ⟨hn2, hb⟩
    · exact m.ok.apart i hi2 hn hb
    · exact m.ok.inj i id hi2 hne hn hn2 hne2 hb
  · rcases hb with hb | ⟨hn2, hb⟩
    · exact m.ok.zlt b hb
    · rw [hb]; exact hold.block_lt hn2
  · rcases hb with hb | ⟨hn2, hb⟩
    · exact m.z b hb
    · rw [hb]
      rcases m.mine id hne hn2 with h | h
      · exact .inr (.inl h)
      · exact .inr (.inr h)

def frzP (id : Nat) (ds : List D) : V → V
  | .ptr i k off => if i = id then (if k = 0 then .d (.pim (ds.drop off)) else .junk) else .ptr i k off
  | v => v
theorem Sub.freezeBox {nt : Nat} {rts : List Nat} {l : List (Nat × V)} {h : List (Nat × Option Blk)} (id : Nat) (ds : List D) (hes : hlook h id = some (.box (ds.map .d))) : Sub (mk nt rts l h) (mk nt rts (liftL (frzP id ds) l) (liftH id (frzP id ds) h)) :=
  Sub.toZ id (frzP id ds) hes rfl fun E w hold E' hl hz hb c v hc => by
    have keep : RV E' w c v := RV.keep (fun _ _ => rfl) hz hl c v hc
    cases c with
    | ptr i k off =>
      show RV E' w (if i = id then _ else _) v
      split
      · rename_i hi
        subst hi
        split
        · rename_i hk
          subst hk
          obtain ⟨hn, h1, vs, h2, h3, h4, h5⟩ := hold
          obtain ⟨_, rfl⟩ := hc
          refine ⟨_, _, vs.drop off, rfl, hb hn, RDs_drop off (RDs.keep (fun _ _ => rfl) hz ds vs (RVs_d.1 h2)), ?_⟩
          have := rangeAt_drop h3 off
          simpa using this
        · trivial
      · exact keep
    | _ => exact keep
attribute [simp] V.lift Blk.lift liftL liftH frzP

theorem RVs_setAt {E : Env} {w : World} {c : V} : ∀ {cs : List V} {vs : List Value} {j : Nat} {v : Value}, RVs E w cs vs → vs[j]? = some v → RV E w c v → RVs E w (cs.set j c) vs
  | [], vs, j, v, h, hv, _ => by
    have : vs = [] := h
    subst this; simp at hv
  | x :: cs, _, 0, v, ⟨u, r, h, h1, h2⟩, hv, hc => by
    subst h
    simp at hv; subst hv
    exact ⟨_, r, rfl, hc, h2⟩
  | x :: cs, _, j + 1, v, ⟨u, r, h, h1, h2⟩, hv, hc => by
    subst h
    exact ⟨u, r, rfl, h1, RVs_setAt h2 (by simpa using hv) hc⟩

/-- nil in a box's cell as an empty row -/
theorem Sub.nilOwnBox {S : St} {bid j id T n : Nat} {cs : List V} (hcs : S.hp bid = some (.box cs)) (hj : cs[j]? = some (.d (.lit (.slice none 0 0)))) (hne : bid ≠ id) (hid : S.rts.contains id = false) (hn : 0 < n) :
    Sub S (((S.kill id).setH id (some (.arr T n []))).setH bid (some (.box ((killC id cs).set j (.ref id 0 0))))) := .of fun fx a w E m => by
  have hid' : id ∉ S.rts := by simpa using hid
  have m' := m.re (row := none) hid' ⟨rfl, rfl, rfl, Nat.le_refl _, fun _ _ _ => rfl⟩ (fun b hb => by cases hb) ⟨0, 0, n, 0, true⟩ (blk := .arr T n []) ⟨by simp [Env.at], by simp [Env.at], (fun e he => by cases he), hn, .inl ⟨by simp [Env.at], rfl⟩⟩ (fun h => by cases h)
  obtain ⟨hnil, h1, vs, h2, h3, h4, h5⟩ := m.ok.hold bid _ hcs
  obtain ⟨v, hv, hrv⟩ := RVs_get h2 hj
  have hvn : v = .slice none 0 0 := RD_lit hrv
  subst hvn
  have hloc : (E.at id ⟨0, 0, n, 0, true⟩).loc bid = E.loc bid := by simp [Env.at, hne]
  refine ⟨_, m'.wr (id := bid) (k0 := .box (killC id cs)) ?_ (by rw [hloc]; exact hnil) ⟨rfl, rfl, rfl, Nat.le_refl _, fun _ _ _ => rfl⟩ ?_⟩
  · show (if bid = id then _ else if bid = id then _ else (S.hp bid).map (Blk.killed id)) = _
    rw [if_neg hne, if_neg hne, hcs]
    rfl
  · refine ⟨by rw [hloc]; exact hnil, fun c hc => ?_, vs, RVs_setAt (RVs.killC h1 h2) hv (.inl ⟨by simp [Env.at], rfl, rfl, rfl⟩), by rw [hloc]; exact h3, by rw [hloc]; exact h4, by rw [hloc]; exact h5⟩
    rcases List.mem_or_eq_of_mem_set hc with hc | rfl
    · exact killC_cell h1 c hc
    · rfl

/-- a part of a list taken out -/
def delL {α : Type} (xs : List α) (i j : Int) : Option (List α) := if 0 ≤ i ∧ i < j ∧ j ≤ xs.length then some (xs.take i.toNat ++ xs.drop j.toNat) else none
theorem delL_some {α : Type} {xs r : List α} {a b : Int} (c : α → List D) (h : delL xs a b = some r) : ∃ i j : Nat, a = i ∧ b = j ∧ i < j ∧ j ≤ xs.length ∧ r.length = i + (xs.length - j) ∧ r.map c = (xs.map c).take i ++ (xs.map c).drop j := by
  obtain ⟨⟨h1, h2, h3⟩, h4⟩ := gsome h
  injection h4 with h4
  subst h4
  refine ⟨a.toNat, b.toNat, by omega, by omega, by omega, by omega, ?_, by simp⟩
  simp
  omega

section
variable {κ α : Type} [DecidableEq κ]
def mget (m : List (κ × α)) (k : κ) : Option α := (m.find? fun p => decide (p.1 = k)).map (·.2)
def mput (m : List (κ × α)) (k : κ) (v : α) : List (κ × α) := if (mget m k).isSome then m.map (fun p => if p.1 = k then (k, v) else p) else m ++ [(k, v)]
def mdel (m : List (κ × α)) (k : κ) : List (κ × α) := m.filter fun p => !decide (p.1 = k)
theorem mget_nil (k : κ) : mget ([] : List (κ × α)) k = none := rfl
theorem mget_cons (p : κ × α) (m : List (κ × α)) (k : κ) : mget (p :: m) k = if p.1 = k then some p.2 else mget m k := by
  by_cases h : p.1 = k <;> simp [mget, List.find?_cons, h]
theorem mget_append (m n : List (κ × α)) (k : κ) : mget (m ++ n) k = (mget m k).or (mget n k) := by
  induction m with
  | nil => simp [mget_nil]
  | cons p m ih =>
    rw [List.cons_append, mget_cons, mget_cons, ih]
    by_cases h : p.1 = k <;> simp [h]
theorem mget_put (m : List (κ × α)) (k k' : κ) (v : α) : mget (mput m k v) k' = if k = k' then some v else mget m k' := by
  unfold mput
  cases h : mget m k with
  | none =>
    simp only [Option.isSome_none, Bool.false_eq_true, if_false]
    rw [mget_append, mget_cons, mget_nil]
    by_cases hk : k = k'
    · subst hk; simp [h]
    · simp [hk]
  | some x =>
    simp only [Option.isSome_some, if_true]
    have : ∀ l : List (κ × α), mget (l.map fun p => if p.1 = k then (k, v) else p) k' = if k = k' then (mget l k').map (fun _ => v) else mget l k' := by
      intro l
      induction l with
      | nil => simp [mget_nil]
      | cons p l ih =>
        rw [List.map_cons, mget_cons, ih, mget_cons]
        by_cases h1 : p.1 = k
        · subst h1
          by_cases h2 : p.1 = k'
          · simp [h2]
          · simp [h2]
        · by_cases h2 : p.1 = k'
          · have : ¬ k = k' := fun e => h1 (h2.trans e.symm)
            have h3 : ¬ k' = k := fun e => this e.symm
            simp [h2, this, h3]
          · simp [h1, h2]
    rw [this]
    by_cases hk : k = k'
    · subst hk; simp [h]
    · simp [hk]
theorem mget_del (m : List (κ × α)) (k k' : κ) : mget (mdel m k) k' = if k = k' then none else mget m k' := by
  induction m with
  | nil => simp [mdel, mget_nil]
  | cons p m ih =>
    unfold mdel at ih ⊢
    by_cases h : p.1 = k
    · rw [List.filter_cons, if_neg (by simp [h]), ih, mget_cons]
      by_cases hk : k = k'
      · simp [hk]
      · have : ¬ p.1 = k' := fun e => hk (h.symm.trans e)
        simp [hk, this]
    · rw [List.filter_cons, if_pos (by simp [h]), mget_cons, ih, mget_cons]
      by_cases hk : k = k'
      · subst hk; simp [h]
      · simp [hk]

def encM (kf : κ → MKey) (vf : α → V) (m : List (κ × α)) : List (MKey × V) := m.map fun p => (kf p.1, vf p.2)
omit [DecidableEq κ] in
theorem encM_nil (kf : κ → MKey) (vf : α → V) : encM kf vf ([] : List (κ × α)) = [] := rfl
theorem klk_enc {kf : κ → MKey} (hi : ∀ a b, kf a = kf b → a = b) (vf : α → V) (m : List (κ × α)) (k : κ) : klk (encM kf vf m) (kf k) = (mget m k).map vf := by
  induction m with
  | nil => rfl
  | cons p m ih =>
    show klk ((kf p.1, vf p.2) :: encM kf vf m) (kf k) = _
    rw [klk_cons, mget_cons, ih]
    by_cases h : p.1 = k
    · simp [h]
    · have : ¬ kf p.1 = kf k := fun e => h (hi _ _ e)
      simp [h, this]
theorem kput_enc {kf : κ → MKey} (hi : ∀ a b, kf a = kf b → a = b) (vf : α → V) (m : List (κ × α)) (k : κ) (v : α) : kput (encM kf vf m) (kf k) (vf v) = encM kf vf (mput m k v) := by
  unfold kput mput
  rw [klk_enc hi, Option.isSome_map]
  split
  · unfold encM
    rw [List.map_map, List.map_map]
    refine List.map_congr_left fun p _ => ?_
    simp only [Function.comp]
    by_cases h : p.1 = k
    · simp [h]
    · have : ¬ kf p.1 = kf k := fun e => h (hi _ _ e)
      simp [h, this]
  · simp [encM]
theorem kdel_enc {kf : κ → MKey} (hi : ∀ a b, kf a = kf b → a = b) (vf : α → V) (m : List (κ × α)) (k : κ) : kdel (encM kf vf m) (kf k) = encM kf vf (mdel m k) := by
  unfold kdel mdel encM
  rw [List.filter_map]
  congr 1
  refine List.filter_congr fun p _ => ?_
  simp only [Function.comp]
  by_cases h : p.1 = k
  · simp [h]
  · have : ¬ kf p.1 = kf k := fun e => h (hi _ _ e)
    simp [h, this]

def vI (k : IntKind) (n : Int) : V := .d (.lit (.int k n))
def vB (b : Bool) : V := .d (.lit (.bool b))
def vS (s : ByteArray) : V := .d (.lit (.string s))
theorem ik_inj (a b : Int) (h : MKey.ik a = MKey.ik b) : a = b := by injection h
theorem sk_inj (a b : ByteArray) (h : MKey.sk a = MKey.sk b) : a = b := by injection h
theorem bk_inj (a b : Bool) (h : MKey.bk a = MKey.bk b) : a = b := by injection h

/-- a look-up -/
theorem Chain.lookE {q : Bool} {P : Program} {ops : Array Oper} {o : Oper} {l : List Oper} {S : St} {Q : St → Prop} {T : TypeId} {m i : Operand} {c : Bool} {ti tk te : TI} {kt et : TypeId} {id : Nat} {kd : TypeDesc} {kf : κ → MKey} {vf : α → V} (hi : ∀ a b, kf a = kf b → a = b) (mm : List (κ × α)) (k : κ) (z : α)
    (hw : wantedV ops S o = some true) (ho : o.op = .lookup T m i c) (hT : tyOf P T = some ti) (hd : ti.desc = .map kt et) (hk : tyOf P kt = some tk) (he : tyOf P et = some te) (hm : S.ev m = .mref id) (hH : S.hp id = some (.mp kd (encM kf vf mm))) (hkey : keyV (S.ev i) = some (kf k))
    (h1 : descEq tk.desc (kf k).desc = true) (h2 : descEq kd (kf k).desc = true) (hz : litV te.zero = vf z) (hc : (vf z).closed = true)
    (h : Chain q P ops l (S.put o.dst (if c then .tup [vf ((mget mm k).getD z), .d (.lit (.bool (mget mm k).isSome))] else vf ((mget mm k).getD z))) Q) : Chain q P ops (o :: l) S Q := by
  refine Chain.look hw ho (r := vf ((mget mm k).getD z)) (b := (mget mm k).isSome) ?_ h
  unfold lkV
  simp only [hT, hd, hk, he, hkey, hm, hH, h1, h2, hz, hc, and_self, if_true]
  rw [klk_enc hi]
  cases mget mm k <;> simp

theorem Chain.msetE {P : Program} {ops : Array Oper} {o : Oper} {l : List Oper} {S : St} {Q : St → Prop} {T : TypeId} {m i x : Operand} {ti tk : TI} {kt et : TypeId} {id : Nat} {kd : TypeDesc} {kf : κ → MKey} {vf : α → V} (hi : ∀ a b, kf a = kf b → a = b) (mm : List (κ × α)) (k : κ) (v : α)
    (hw : wantedV ops S o = some true) (ho : o.op = .mapUpdate T m i x ∨ o.op = .insert T m i x) (hT : tyOf P T = some ti) (hd : ti.desc = .map kt et) (hk : tyOf P kt = some tk) (hkd : tk.desc = kd) (hm : S.ev m = .mref id) (hH : S.hp id = some (.mp kd (encM kf vf mm))) (hkey : keyV (S.ev i) = some (kf k))
    (hkk : (kf k).desc = kd) (hx : S.ev x = vf v) (hc : (vf v).closed = true)
    (h : Chain false P ops l ((S.setH id (some (.mp kd (encM kf vf (mput mm k v))))).put o.dst (.tup [])) Q) : Chain false P ops (o :: l) S Q := by
  refine Chain.mset hw ho hT hd hk hkd hm hH hkey hkk hx hc ?_
  rw [kput_enc hi]
  exact h
end
end Go.Ab
