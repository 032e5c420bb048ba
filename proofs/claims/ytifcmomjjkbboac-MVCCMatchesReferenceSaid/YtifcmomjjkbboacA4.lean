/- The abstract machine: nil slices in boxes as rows without elements. The abstract machine: the library's sort of strings on an own row. -/
import Derived.Test.YtifcmomjjkbboacA3
section
namespace Go.Ab
open Go.RowKit

theorem Sub.wkCell {S : St} {bid j : Nat} {cs : List V} (hcs : S.hp bid = some (.box cs)) (hj : cs[j]? = some (.d (.lit (.slice none 0 0)))) : Sub S (S.setH bid (some (.box (cs.set j (.d (.sl [])))))) := .of fun fx a w E m => by
 obtain ⟨hnil, h1, vs, h2, h3, h4, h5⟩ := m.ok.hold bid _ hcs
 obtain ⟨v, hv, hrv⟩ := RVs_get h2 hj
 have hvn : v = .slice none 0 0 := RD_lit hrv
 subst hvn
 refine ⟨_, m.wr (id := bid) (k0 := .box cs) hcs hnil ⟨rfl, rfl, rfl, Nat.le_refl _, fun _ _ _ => rfl⟩ ⟨hnil, fun c hc => ?_, vs, RVs_setAt h2 hv ⟨none, 0, rfl, Nat.le_refl _, Nat.zero_le _, fun _ => rfl, fun h => absurd rfl h⟩, h3, h4, h5⟩⟩
 rcases List.mem_or_eq_of_mem_set hc with hc | rfl
 ·exact h1 c hc
 ·rfl

/-! ### functions that hand back new data only -/
def flatSh : List (Option (TypeId × Nat)) → List D → Prop
 | [], [] => True
 | none :: sh, d :: ds => d.flat = true ∧ flatSh sh ds
 | some _ :: sh, .sl ys :: ds => (∀ y ∈ ys, ∀ x ∈ y, x.flat = true) ∧ flatSh sh ds
 | _, _ => False
def flatN : Blk → Prop
 | .arr _ _ es => ∀ e ∈ es, ∀ x ∈ e, x.flat = true
 | .nest _ _ sh es fo => fo = [] ∧ ∀ e ∈ es, flatSh sh e
 | _ => False
theorem flatN_nest {α : Type} {T n : Nat} {sh : List (Option (TypeId × Nat))} {c : α → List D} (h : ∀ a, flatSh sh (c a)) (xs : List α) : flatN (.nest T n sh (xs.map c) []) :=
 ⟨rfl, fun e he => by obtain ⟨a, _, rfl⟩ := List.mem_map.1 he; exact h a⟩
theorem flatN_arr {α : Type} {T n : Nat} {c : α → List D} (h : ∀ a, ∀ x ∈ c a, x.flat = true) (xs : List α) : flatN (.arr T n (xs.map c)) :=
 fun e he => by obtain ⟨a, _, rfl⟩ := List.mem_map.1 he; exact h a
theorem RNs.toFlat {w : World} {Z Z' : Nat → Prop} : ∀ (sh : List (Option (TypeId × Nat))) (ds : List D) (vs : List Value) (ls : List Loc), flatSh sh ds → RNs w Z sh ds vs ls → RNs w Z' sh ds vs ls
 | [], ds, vs, ls, _, h => h
 | none :: sh, ds, vs, ls, hf, ⟨d, ds', v, r, h1, h2, h3, h4⟩ => by
  subst h1
  refine ⟨d, ds', v, r, rfl, h2, ?_, RNs.toFlat sh ds' r ls hf.2 h4⟩
  have := hf.1
  cases d <;> first | exact h3 | (simp [D.flat] at this)
 | some (T, n) :: sh, ds, vs, ls, hf, ⟨es, ds', v, r, ℓ, ls', h1, h2, h3, ⟨h4, h5⟩, h6⟩ => by
  subst h1
  obtain ⟨a1, a2, a3, a4, a5⟩ := h5
  refine ⟨es, ds', v, r, ℓ, ls', rfl, h2, h3, ⟨h4, a1, a2, a3, a4, a5.imp (fun h => h) ?_⟩, RNs.toFlat sh ds' r ls' hf.2 h6⟩
  rintro ⟨b0, c, flat, b1, b2, b3, b4, b5, b6⟩
  exact ⟨b0, c, flat, b1, b2, b3, b4, RDe_flat hf.1 b5, b6⟩
theorem RNe.toFlat {E : Env} {ℓ : Loc} {Z' : Nat → Prop} {w : World} {sh : List (Option (TypeId × Nat))} : ∀ (k : Nat) (es : List (List D)) (vs : List Value) (ls : List Loc), (∀ e ∈ es, flatSh sh e) → RNe E w sh [] k es vs ls → RNe (oneE ℓ Z') w sh [] k es vs ls
 | _, [], _, _, _, h => h
 | k, e :: es, _, _, hf, ⟨a, r, la, lr, h1, h2, h3, h4⟩ => ⟨a, r, la, lr, h1, h2, RNs.toFlat sh e a la (hf e (.head _)) h3, RNe.toFlat (k + 1) es r lr (fun e he => hf e (.tail _ he)) h4⟩
theorem Hold.toFlatN {ℓ : Loc} {Z Z' : Nat → Prop} {w : World} {i : Nat} {k : Blk} (hf : flatN k) (h : Hold (oneE ℓ Z) w i k) : Hold (oneE ℓ Z') w i k := by
 cases k with
 | nest T n sh es fo =>
  obtain ⟨rfl, hf⟩ := hf
  obtain ⟨h1, h2, h3, h4, h5, h6, h7⟩ := h
  refine ⟨h1, h2, h3, h4, h5, h6, h7.imp (fun h => h) ?_⟩
  rintro ⟨b0, c, flat, ls, b1, b2, b3, b4, b5, b6, b7⟩
  exact ⟨b0, c, flat, ls, b1, b2, b3, b4, RNe.toFlat 0 es flat ls hf b5, b6, b7⟩
 | arr T n es => exact Hold.toFlat (k := .arr T n es) hf h
 | box cs => exact hf.elim
 | mp kd l => exact hf.elim

def viewR (H : Heap) : V → Option V
 | .tup cs => (mapO (viewV H) cs).map .tup
 | c => viewV H c
theorem viewR_sound {E : Env} {H : Heap} {w : World} (ok : E.ok H w) (E' : Env) (hE : E'.Z = (E.seen H).Z) (c c' : V) (v : Value) (h : RV E w c v) (hv : viewR H c = some c') : RV E' w c' v := by
 cases c with
 | tup cs =>
  obtain ⟨vs, h1, h2⟩ := h
  simp only [viewR] at hv
  cases hm : mapO (viewV H) cs with
  | none => simp [hm] at hv
  | some ds =>
   simp only [hm, Option.map_some, Option.some.injEq] at hv
   subst hv
   exact ⟨vs, h1, viewVs_sound ok E' hE h2 hm⟩
 | _ => exact viewV_sound ok E' hE _ _ _ h hv

/-- what comes back lies in new blocks alone -/
def FunF (P : Program) (f : FuncId) (args : List V) (v : V) : Prop := v.closed = true ∧
 ∀ (w : World) (Z : Nat → Prop) (vals : List Value), GW w → (∀ b, Z b → b < w.heap.size) → RVs (oneE default Z) w args vals → Calls P f vals.toArray w fun e w' =>
  ∃ x Zr, e = .returned x ∧ (∀ b, Zr b → w.heap.size ≤ b ∧ b < w'.heap.size) ∧ RV (oneE default Zr) w' v x ∧ Grow w w'
def only1 (id : Nat) (k : Blk) : Heap := fun i => if i = id then some k else none
def FinV (P : Program) (fn : Func) (v : V) (e : Exit) (S : St) : Prop :=
 (e = .normal ∨ e = .ret) ∧ v.closed = true ∧ ∃ r id k, outV (tyOf P) fn.results.toList S = some r ∧ r.only id = true ∧ r.flat = true ∧ S.hp id = some k ∧ flatN k ∧ viewR (only1 id k) r = some v
theorem FinV.ret {P : Program} {fn : Func} {v : V} {S : St} (r : V) (id : Nat) {k : Blk} (h1 : outV (tyOf P) fn.results.toList S = some r) (h2 : r.only id = true) (h3 : r.flat = true) (h4 : S.hp id = some k) (h5 : flatN k) (h6 : viewR (only1 id k) r = some v) (h7 : v.closed = true) : FinV P fn v .ret S :=
 ⟨.inr rfl, h7, r, id, k, h1, h2, h3, h4, h5, h6⟩

theorem FunF.enter {P : Program} {f : FuncId} {fn : Func} {c : Code} {args : List V} {v : V} (nt : Nat) (l : List (Nat × V)) (hc : v.closed = true) (hf : P.funcs[f]? = some fn) (hb : fn.body = some c) (hle : args.length ≤ fn.ntmps) (hn : fn.ntmps = nt) (hl : enterL args 0 = l)
  (h : AW P c (mk nt [] l []) (FinV P fn v)) : FunF P f args v := by
 subst hn; subst hl
 refine ⟨hc, ?_⟩
 intro w Z vals hg0 hz hv
 have hC := Ctr.of (P := P) (f := f) (args := args) (h0 := []) (rts := []) (Q := fun r H => ∃ id k, r.only id = true ∧ r.flat = true ∧ H id = some k ∧ flatN k ∧ viewR (only1 id k) r = some v) hf hb hle
  (h.mono fun e S ⟨h1, _, r, id, k, h2, h3⟩ => ⟨h1, r, h2, id, k, h3⟩)
 refine (hC w (oneE default Z) vals (hg0.go0 _ fun _ => rfl) ⟨fun id k hk => (by cases hk), fun i j hi => absurd rfl hi, fun i hi => absurd rfl hi, hz, fun i hi => absurd rfl hi⟩ hv).mono ?_
 rintro e w' ⟨x, E', r, H1, rfl, ⟨id, k, h1, h2, h3, h4, h5⟩, hr, hp⟩
 have hg : Grow w w' := ⟨hp.frame.os, hp.frame.tape, hp.frame.output, hp.frame.size, fun k hk => hp.frame.block k hk (fun ⟨i, hi, _⟩ => hi rfl)⟩
 have hi : H1 id ≠ none := by rw [h3]; simp
 have hr1 : RV (oneE (E'.loc id) E'.Z) w' r x := RV.only (E := E') (E' := oneE (E'.loc id) E'.Z) (id := id) (fun _ h => h) (fun i hi => rfl) r x h1 hr
 have hr2 : RV (oneE (E'.loc id) fun _ => False) w' r x := RV.toFlat r x h2 hr1
 have hh0 : Hold (oneE (E'.loc id) E'.Z) w' id k := by
  have := hp.ok.hold id _ h3
  cases k with
  | arr T n es => exact this
  | nest T n sh es fo =>
   obtain ⟨rfl, _⟩ := h4
   obtain ⟨q1, q2, q3, q4, q5, q6, q7⟩ := this
   refine ⟨q1, q2, q3, q4, q5, q6, q7.imp (fun h => h) ?_⟩
   rintro ⟨b0, c, flat, ls, b1, b2, b3, b4, b5, b6, b7⟩
   exact ⟨b0, c, flat, ls, b1, b2, b3, b4, RNe.z (E := E') (E' := oneE (E'.loc id) E'.Z) (fun _ h => h) 0 es flat ls b5, b6, b7⟩
  | box cs => exact h4.elim
  | mp kd l => exact h4.elim
 have hh : Hold (oneE (E'.loc id) fun _ => False) w' id k := hh0.toFlatN h4
 have one : ∀ i, only1 id k i ≠ none → i = id := fun i hi => by
  unfold only1 at hi
  by_cases e : i = id
  ·exact e
  ·rw [if_neg e] at hi; exact absurd rfl hi
 have ok0 : (oneE (E'.loc id) fun _ => False).ok (only1 id k) w' := by
  refine ⟨fun i k' hk => ?_, fun i j hi hj hij => absurd ((one i hi).trans (one j hj).symm) hij, fun i _ b _ hz => hz, fun b hz => hz.elim, fun i _ b hb => hp.ok.xlt id hi b hb⟩
  obtain rfl := one i (by rw [hk]; simp)
  unfold only1 at hk
  rw [if_pos rfl] at hk
  injection hk with hk
  subst hk
  exact hh
 refine ⟨x, ((oneE (E'.loc id) fun _ => False).seen (only1 id k)).Z, rfl, fun b hb => ?_, viewR_sound ok0 (oneE default _) rfl r v x hr2 h5, hg⟩
 rcases hb with hb | ⟨i, _, hb⟩
 ·exact hb.elim
 ·have hb : (E'.loc id).own b := hb
  refine ⟨?_, hp.ok.own_lt hi hb⟩
  rcases hp.mine id hi b hb with h | ⟨i, hi, _⟩
  ·exact h
  ·exact absurd rfl hi

/-- a call that hands back new data -/
theorem Chain.callFr {P : Program} {ops : Array Oper} {o : Oper} {l : List Oper} {S : St} {Q' : St → Prop} {c : Call} {d : Nat} {f : FuncId} {caps args : List V} {v : V} (hF : FunF P f args v) (hw : wantedV ops S o = some true) (ho : o.op = .call c) (hd : o.dst = some d)
  (hcal : calleeV S c = some (f, caps)) (hargs : mapO (viewV S.hp) (c.args.toList.map S.ev ++ caps) = some args) (hent : Rp.Enters P f) (hid : S.rts.contains d = false)
  (hrest : Chain false P ops l (((S.kill d).setH d none).put (some d) v) Q') : Chain false P ops (o :: l) S Q' := by
 have hid' : d ∉ S.rts := by simpa using hid
 intro fx a w Q'' ⟨E, m⟩ hq
 have hw' := wantedV_sound m hw
 unfold wpList
 rw [if_pos hw']
 refine .inl ?_
 obtain ⟨cv, hcv, hrun⟩ := calleeV_sound m.ev hcal hent ho
 unfold Oper.wp
 rw [hrun w]
 simp only [Oper.upon, hd]
 have hall := RVs_append (RVs_map m.ev c.args.toList) hcv
 have seen : ∀ b, (E.seen S.hp).Z b → b < w.heap.size := fun b hb => by
  rcases hb with hb | hb
  ·exact m.ok.zlt b hb
  ·exact m.ok.lof_lt hb
 have hvs := viewVs_sound m.ok (oneE default (E.seen S.hp).Z) rfl hall hargs
 refine (hF.2 w (E.seen S.hp).Z _ m.go.gw seen hvs).mono ?_
 rintro e w' ⟨x, Zr, rfl, hz, hr, hg⟩
 have hm := m.got hg hid' (k := none) (r := v) (ℓ := default) (Z' := Zr) (v := x) hr (fun blk hb => by cases hb) (fun b hb => ⟨.inr (hz b hb).1, (hz b hb).2⟩)
 unfold St.got at hm
 rw [closed_ren _ hF.1] at hm
 exact hrest fx _ w' Q'' hm hq
end Go.Ab
end
section
namespace Go.Ab
open Go.RowKit Go.Sort

def bsOf (b : ByteArray) : List UInt8 := b.data.toList
def ofBs (l : List UInt8) : ByteArray := ⟨l.toArray⟩
theorem ofBs_bsOf (b : ByteArray) : ofBs (bsOf b) = b := by cases b; simp [ofBs, bsOf]
theorem bsOf_ofBs (l : List UInt8) : bsOf (ofBs l) = l := by simp [ofBs, bsOf]
def sortS (xs : List ByteArray) : Option (List ByteArray) := if xs.length < 4611686018427387904 then some (((xs.map bsOf).mergeSort fun x y => decide (x ≤ y)).map ofBs) else none
theorem sortS_length {xs r : List ByteArray} (h : sortS xs = some r) : r.length = xs.length := by
 unfold sortS at h
 split at h
 ·injection h with h; subst h; simp
 ·cases h
theorem map_bs (xs : List ByteArray) : ((xs.map bsOf).map fun x => [D.lit (Go.Proofs.encStr x)]) = xs.map cS := by
 rw [List.map_map]
 refine List.map_congr_left fun b _ => ?_
 cases b
 simp [bsOf, cS, Go.Proofs.encStr]
theorem sortS_funM {P : Program} {f : FuncId} {T : TypeId}
  (hnone : ∀ (p : Option Addr) (cap : Nat) (w : World), Calls P f #[.slice p 0 cap] w fun e w' => e = .returned (.tuple #[]) ∧ w' = w)
  (hsort : ∀ (blk off cap : Nat) (zs : List (List UInt8)) (w : World), Holds Go.Proofs.encStr w blk off zs.toArray → blk < w.heap.size → zs.length < 4611686018427387904 → Calls P f #[.slice (some ⟨blk, off, none⟩) zs.length cap] w fun e w' =>
   e = .returned (.tuple #[]) ∧ ∃ n os, w' = grow (putRow Go.Proofs.encStr (Sort.ahead w n) blk off (zs.mergeSort fun x y => decide (x ≤ y)).toArray) os)
  (xs r : List ByteArray) (h : sortS xs = some r) : FunM P f [.ref 1000 0 xs.length] [(1000, some (.arr T 1 (xs.map cS)))] [1000] (.tup []) [(1000, .arr T 1 (r.map cS))] := by
 have hl := sortS_length h
 unfold sortS at h
 split at h
 case isFalse => cases h
 rename_i hsz
 injection h with h
 have := sort1_funM (P := P) (f := f) (T := T) (α := List UInt8) Go.Proofs.encStr (fun _ => rfl) (fun xs => xs.mergeSort fun x y => decide (x ≤ y)) (fun xs => by simp) hnone (by simp) hsort (xs.map bsOf) ((xs.map bsOf).mergeSort fun x y => decide (x ≤ y)) (by rw [if_pos (by simpa using hsz)])
 rw [map_bs, List.length_map] at this
 have e : ((xs.map bsOf).mergeSort fun x y => decide (x ≤ y)) = r.map bsOf := by
  rw [← h, List.map_map]
  conv => lhs; rw [← List.map_id ((xs.map bsOf).mergeSort fun x y => decide (x ≤ y))]
  exact List.map_congr_left fun l _ => (bsOf_ofBs l).symm
 rw [e, map_bs] at this
 exact this
end Go.Ab
end
