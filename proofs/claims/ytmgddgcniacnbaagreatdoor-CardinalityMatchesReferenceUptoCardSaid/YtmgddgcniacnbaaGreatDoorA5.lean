/- The abstract machine: what this law needs besides. -/
import Derived.Test.YtmgddgcniacnbaaGreatDoorA4
import Derived.Laws.IdiomStrings
import Derived.Lib.Bytealg
section
namespace Go.Ab
open Go.RowKit
section
variable {P : Program} {S : St} {σ β ρ : Type}
theorem AW.seqJ {x y : Code} {d : Option (Out β ρ)} {k : β → Option ρ} {r : ρ} {Q : Exit → St → Prop} (J : β → St) (h : bindO d k = some r) (h1 : ∀ o, d = some o → AW P x S (PostJ J r Q o))
  (h2 : ∀ b, k b = some r → AW P y (J b) Q) : AW P (.seq x y) S Q := by
 cases hd : d with
 | none => rw [hd] at h; cases h
 | some o =>
  rw [hd] at h
  refine AW.seq ((h1 o hd).mono fun e S' hp => ?_)
  cases o with
  | go b =>
   obtain ⟨rfl, hp⟩ := hp
   exact .sub hp (h2 b h)
  | ret r' =>
   injection h with h
   obtain ⟨he, hp⟩ := hp
   have hp := hp h
   cases e with
   | normal => exact absurd rfl he
   | exit id => exact hp
   | goto l => exact hp
   | ret => exact hp
   | panic ch => exact hp
   | outgrown => exact hp
end
end Go.Ab
end
section
namespace Go.Ab
open Go.RowKit
theorem RVs.wk {E : Env} {w : World} {cs : List V} {vs : List Value} (h : RVs E w cs vs) : RVs E w (cs.map V.wk) vs := RVs.frz (fun _ _ h => RV.wk h) h
theorem FunC.wk {P : Program} {f : FuncId} {args : List V} {v : V} (h : FunC P f (args.map V.wk) v) : FunC P f args v :=
 ⟨h.1, fun w Z vals hg hz hv => h.2 w Z vals hg hz (RVs.wk hv)⟩
theorem FunC.args {P : Program} {f : FuncId} {args args' : List V} {v v' : V} (h : FunC P f args' v') (ha : args' = args.map V.wk) (hv : v' = v) : FunC P f args v := by
 subst ha; subst hv; exact h.wk
section
variable {P : Program} {S : St} {β ρ : Type}
end
end Go.Ab
end
section
namespace Go.Ab
open Go.RowKit
theorem chkI_of {n : Int} (h1 : -9223372036854775808 ≤ n) (h2 : n ≤ 9223372036854775807) : chkI n = some n := if_pos ⟨h1, h2⟩
theorem appL_of {α : Type} {b : Nat} {xs ys : List α} (h : (xs.length + ys.length) * b ≤ Rp.reach) : appL b xs ys = some (xs ++ ys) := if_pos h
theorem natI_nat {k n : Nat} (h : k ≤ n) : natI (k : Int) n = some k := by
 unfold natI
 rw [if_pos (by omega)]
 simp
/-- a run over a list, with an end ahead of time -/
def listFor {α σ ρ : Type} (body : Nat → α → σ → σ ⊕ ρ) (fin : σ → ρ) : List α → Nat → σ → ρ
 | [], _, s => fin s
 | x :: xs, k, s => match body k x s with
  | .inl s' => listFor body fin xs (k + 1) s'
  | .inr r => r
theorem iter_list {α σ τ ρ : Type} (xs : List α) (mkS : σ → Int → τ) (step : τ → Option (τ ⊕ ρ)) (body : Nat → α → σ → σ ⊕ ρ) (fin : σ → ρ)
  (hs : ∀ (k : Nat) x s, xs[k]? = some x → k < xs.length → step (mkS s k) = some (match body k x s with | .inl s' => .inl (mkS s' ((k : Int) + 1)) | .inr r => .inr r))
  (he : ∀ s, step (mkS s xs.length) = some (.inr (fin s))) {n : Nat} (hn : xs.length < n) (s : σ) : iterN step n (mkS s 0) = some (listFor body fin xs 0 s) := by
 have key : ∀ (m : Nat) (k : Nat) (s : σ), k ≤ xs.length → xs.length - k < m → iterN step m (mkS s k) = some (listFor body fin (xs.drop k) k s) := by
  intro m
  induction m with
  | zero => intro k s _ h; omega
  | succ m ih =>
   intro k s hk hm
   rw [iterN_succ]
   by_cases hlt : k < xs.length
   ·have hx : xs[k]? = some xs[k] := List.getElem?_eq_getElem hlt
    rw [hs k _ s hx hlt, List.drop_eq_getElem_cons hlt]
    unfold listFor
    cases body k xs[k] s with
    | inl s' => exact ih (k + 1) s' (by omega) (by omega)
    | inr r => rfl
   ·have hkk : k = xs.length := by omega
    subst hkk
    rw [he, List.drop_length]
    rfl
 exact key n 0 s (Nat.zero_le _) (by omega)
def optI : Option Nat → Int
 | some i => i
 | none => -1
theorem optI_ge {α : Type} {p : α → Bool} {xs : List α} : decide (optI (xs.findIdx? p) ≥ 0) = xs.any p := by
 rw [← List.findIdx?_isSome]
 cases xs.findIdx? p with
 | none => rfl
 | some i => simp [optI]
theorem findIdx?_listFor {α : Type} (q : α → Bool) : ∀ (xs : List α) (k : Nat), listFor (fun k x (_ : Unit) => if q x = true then .inr (.ret (k : Int)) else .inl ()) (fun _ => (.go () : Out Unit Int)) xs k () = match xs.findIdx? q with
  | some i => .ret ((k : Int) + i)
  | none => .go ()
 | [], k => rfl
 | x :: xs, k => by
  unfold listFor
  rw [List.findIdx?_cons]
  cases h : q x with
  | true => simp
  | false =>
   simp only [Bool.false_eq_true, if_false]
   rw [findIdx?_listFor q xs (k + 1)]
   cases xs.findIdx? q with
   | none => rfl
   | some i =>
    simp only [Option.map_some]
    congr 1
    omega
/-- slices.IndexFunc -/
theorem indexFunc_eq {α : Type} (N : Nat) (xs : List α) (p : α → Option Bool) (q : α → Bool) (hp : ∀ x ∈ xs, p x = some (q x)) (hN : xs.length < N) (hb : xs.length < 9223372036854775807) :
  bindO (β := Unit) (ρ := Int) (iterN (σ := Int) (ρ := Out Unit Int) (fun (v : Int) => if v < (xs.length : Int) then (idx xs v).bind fun x => (p x).bind fun r => if r = true then some (.inr (.ret v)) else (chkI (v + 1)).bind fun v' => some (.inl v') else some (.inr (.go ()))) N 0) (fun _ => some (-1)) = some (optI (xs.findIdx? q)) := by
 have := iter_list xs (fun (_ : Unit) (v : Int) => v) (fun (v : Int) => if v < (xs.length : Int) then (idx xs v).bind fun x => (p x).bind fun r => if r = true then some (.inr (.ret v)) else (chkI (v + 1)).bind fun v' => some (.inl v') else some (.inr (.go () : Out Unit Int)))
  (fun k x (_ : Unit) => if q x = true then .inr (.ret (k : Int)) else .inl ()) (fun _ => .go ()) (fun k x s hx hk => ?_) (fun s => ?_) hN ()
 ·rw [this, findIdx?_listFor]
  cases xs.findIdx? q <;> simp [optI]
 ·have hlt : (k : Int) < (xs.length : Int) := by omega
  rw [if_pos hlt, idx_nat hx]
  simp only [Option.bind_some]
  rw [hp x (List.mem_of_getElem? hx)]
  simp only [Option.bind_some]
  cases q x with
  | true => simp
  | false => simp [chkI_of (show (-9223372036854775808 : Int) ≤ (k : Int) + 1 by omega) (show (k : Int) + 1 ≤ 9223372036854775807 by omega)]
 ·simp
end Go.Ab
end
section
namespace Go.Ab
open Go.RowKit
section
variable {α : Type} {v : α → V} {d : α → D}
end
/-- an index into an array -/
def arrI (i : Int) (n : Nat) : Option Nat := if 0 ≤ i ∧ i < n then some i.toNat else none
theorem arrI_some {i : Int} {n k : Nat} (h : arrI i n = some k) : i.toNat = k ∧ 0 ≤ i ∧ i < n ∧ k < n := by
 obtain ⟨h1, h2⟩ := gsome h
 injection h2 with h2
 exact ⟨h2, h1.1, h1.2, by omega⟩
/-- a cell is set -/
def setN {α : Type} (xs : List α) (o : Nat) (x : α) : Option (List α) := if o < xs.length then some (xs.set o x) else none
theorem setN_some {α : Type} {xs ys : List α} {o : Nat} {x : α} (v : α → V) (h : setN xs o x = some ys) : o + 1 ≤ xs.length ∧ (xs.map v).take o ++ v x :: (xs.map v).drop (o + 1) = ys.map v ∧ ys.length = xs.length := by
 obtain ⟨h1, h2⟩ := gsome h
 injection h2 with h2
 subst h2
 refine ⟨h1, ?_, by simp⟩
 rw [List.map_set, List.set_eq_take_append_cons_drop, if_pos (by simpa using h1)]
end Go.Ab
end
section
namespace Go.Ab
open Go.RowKit Go.MapKept
section
variable {κ α : Type} [DecidableEq κ]
end
def idxB (s : ByteArray) (i : Int) : Option Int := if 0 ≤ i then (s[i.toNat]?).map fun b => (b.toNat : Int) else none
theorem idxB_some {s : ByteArray} {i v : Int} (h : idxB s i = some v) : ∃ (b : UInt8) (k : Nat), i.toNat = k ∧ s[k]? = some b ∧ (b.toNat : Int) = v ∧ 0 ≤ i := by
 obtain ⟨h1, h2⟩ := gsome h
 obtain ⟨b, h3, h4⟩ := Option.map_eq_some_iff.1 h2
 exact ⟨b, _, rfl, h3, h4, h1⟩
def maxI (x y : Int) : Int := if x < y then y else x
end Go.Ab
end
section
namespace Go.Ab
open Go.RowKit
theorem idxB_someN {s : ByteArray} {n : Nat} {v : Int} (h : idxB s (n : Int) = some v) : ∃ b : UInt8, s[n]? = some b ∧ (b.toNat : Int) = v := by
 obtain ⟨b, k, h1, h2, h3, _⟩ := idxB_some h
 simp at h1
 subst h1
 exact ⟨b, h2, h3⟩
end Go.Ab
end
section
namespace Go.Ab
open Go.RowKit
def u8s (s : ByteArray) : List Int := s.data.toList.map fun b => (b.toNat : Int)
def convB (s : ByteArray) : Option (List Int) := if s.size ≤ maxLen then some (u8s s) else none
theorem convB_some {s : ByteArray} {r : List Int} (h : convB s = some r) : s.size ≤ maxLen ∧ u8s s = r := by
 obtain ⟨h1, h2⟩ := gsome h
 injection h2 with h2
 exact ⟨h1, h2⟩
theorem u8s_length (s : ByteArray) : (u8s s).length = s.size := by simp [u8s]
theorem RDe_u8of {w : World} {Z : Nat → Prop} : ∀ l : List UInt8, RDe w Z ((l.map fun b => (b.toNat : Int)).map (cI .u8)) (l.map fun b => Value.int .u8 b.toNat)
 | [] => rfl
 | b :: l => ⟨[Value.int .u8 b.toNat], l.map fun b => Value.int .u8 b.toNat, rfl, ⟨_, [], rfl, ⟨rfl, rfl⟩, rfl⟩, RDe_u8of l⟩
theorem grow_drew1 (w : World) : Grow w w.drew := ⟨rfl, rfl, rfl, Nat.le_refl _, fun _ _ => rfl⟩
theorem Chain.convB {P : Program} {ops : Array Oper} {o : Oper} {l : List Oper} {S : St} {Q : St → Prop} {src dst e : TypeId} {x : Operand} {ts td te : TI} {s : ByteArray} {r : List Int} (hw : wantedV ops S o = some true) (ho : o.op = .convert src dst x)
  (hs : tyOf P src = some ts) (hsd : ts.desc = .string) (hd : tyOf P dst = some td) (hdd : td.desc = .slice e) (he : tyOf P e = some te) (hed : te.desc = .int .u8) (hx : S.ev x = .d (.lit (.string s))) (hr : Ab.convB s = some r)
  (h : Chain false P ops l (S.put o.dst (.d (.sl (r.map (cI .u8))))) Q) : Chain false P ops (o :: l) S Q := by
 obtain ⟨hl, rfl⟩ := convB_some hr
 intro fx a w Q' ⟨E, m⟩ hq
 unfold wpList
 rw [if_pos (wantedV_sound m hw)]
 refine .inl ?_
 have hxv := m.ev x
 rw [hx] at hxv
 obtain ⟨hxv, _⟩ := hxv
 have hus : P.underlying src = some .string := by rw [(tyOf_spec hs).1, hsd]
 have hud : P.underlying dst = some (.slice e) := by rw [(tyOf_spec hd).1, hdd]
 have hue : P.underlying e = some (.int .u8) := by rw [(tyOf_spec he).1, hed]
 have hrun := run_bytes_of_string (P := P) w src dst e s hus hud hue
 obtain ⟨cap, hcap⟩ : ∃ c, c = grownCap w s.size 0 e := ⟨_, rfl⟩
 have hge : s.size ≤ cap := hcap ▸ grownCap_ge w s.size 0 e
 have hle : cap ≤ maxLen := hcap ▸ grownCap_le_maxLen w s.size 0 e hl
 rw [← hcap] at hrun
 have m1 := (m.grow (grow_drew1 w)).lay (.cells (bytesRow s cap) e ((bytesRow s cap).size, (bytesRow s cap).size + 1))
 have hrv : RV { E with Z := fun b => E.Z b ∨ b = w.heap.size } (w.drew.alloc (.cells (bytesRow s cap) e ((bytesRow s cap).size, (bytesRow s cap).size + 1))) (.d (.sl ((u8s s).map (cI .u8)))) (.slice (some ⟨w.heap.size, 0, none⟩) s.size cap) := by
  refine ⟨some ⟨w.heap.size, 0, none⟩, cap, by rw [List.length_map, u8s_length], by rw [List.length_map, u8s_length]; exact hge, hle, (fun h => by cases h), fun _ => ⟨w.heap.size, 0, 1, _, rfl, .inr rfl, ?_, RDe_u8of s.data.toList, ?_⟩⟩
  ·intro y hy
   obtain ⟨z, _, rfl⟩ := List.mem_map.1 hy
   rfl
  ·intro j v hv
   have hb : (w.drew.alloc (.cells (bytesRow s cap) e ((bytesRow s cap).size, (bytesRow s cap).size + 1))).heap[w.heap.size]? = some (.cells (bytesRow s cap) e ((bytesRow s cap).size, (bytesRow s cap).size + 1)) := by
    show (w.heap.push _)[w.heap.size]? = _
    simp
   simp only [World.cell?, hb]
   rw [Nat.zero_add]
   have hj : j < s.data.size := by
    have := (List.getElem?_eq_some_iff.1 hv).1
    simpa using this
   unfold bytesRow
   rw [Array.getElem?_append_left (by simpa using hj)]
   simpa using hv
 unfold Oper.wp execOp
 simp only [ho, hxv, Sem.run_bind, hrun, Result.andThen_ok, Sem.run_pure, Oper.upon]
 exact h fx _ _ Q' ⟨_, m1.put o.dst hrv⟩ hq
end Go.Ab
end
section
namespace Go.Ab
open Go.RowKit

section
variable {P : Program} {ops : Array Oper} {md : Region.Mode} {C : World → Prop}
/-- whatever order the first n operations come up in -/
def headQ (P : Program) (md : Region.Mode) (ops : Array Oper) (C : World → Prop) (n : Nat) (L : Array Bool → Act → Prop) : Nat → Array Bool → Act → Prop
 | 0, done, a => L done a
 | f + 1, done, a => Region.ready md ops done ≠ [] ∧ ∀ i ∈ Region.ready md ops done, i < n ∧ qOp P ops C i (headQ P md ops C n L f (done.setIfInBounds i true)) a

theorem headQ_any {n g : Nat} {L : Array Bool → Act → Prop} {Q : Exit → Act → World → Prop} (hL : ∀ done a w, C w → L done a → wpAny P md ops Q g done a w) :
  ∀ (f : Nat) (done : Array Bool) (a : Act) (w : World), C w → headQ P md ops C n L f done a → wpAny P md ops Q (f + g) done a w
 | 0, done, a, w, hw, h => by rw [Nat.zero_add]; exact hL _ _ _ hw h
 | f + 1, done, a, w, hw, h => by
  have e : f + 1 + g = (f + g) + 1 := by omega
  rw [e]
  exact ⟨fun h0 => absurd h0 h.1, fun i hi => wpOp_of_qOp hw (fun a' w' hw' h' => headQ_any hL f _ a' w' hw' h') (h.2 i hi).2⟩

theorem headQ_first {n i : Nat} {oi : Oper} {v : Value} {L : Array Bool → Act → Prop} (hi : ops[i]? = some oi) (hsel : ∀ (j : Nat) (o : Oper) cs b, ops[j]? = some o → o.op ≠ .select cs b)
  (hs : Region.sinkB md ops n = true) (hc : Region.chainB md ops n = true) (hn : n < ops.size) (hin : i < n) (hend : ∀ done a, L done a → ∀ j ∈ Region.ready md ops done, n ≤ j) :
  ∀ (f : Nat) (done : Array Bool) (a : Act), HeadInv md ops n done →
   (∀ j oj, ops[j]? = some oj → j ≠ i → done.getD j true = false → (∀ e ∈ oj.after, Region.binds md e = true → e.on ≠ i) → oi.apart ops oj = true) →
   i ∈ Region.ready md ops done → YieldsIn P ops C oi v a → headQ P md ops C n L f (done.setIfInBounds i true) (a.put oi.dst v) → headQ P md ops C n L (f + 1) done a
 | f, done, a, inv, hfree, hr, hy, H => by
  have hun := (mem_ready.1 hr).1
  refine ⟨fun h => (by rw [h] at hr; cases hr), fun j hj => ?_⟩
  have hjn : j < n := by
   rcases Nat.lt_or_ge j n with h | h
   ·exact h
   ·exact absurd hj (tail_waits hs hc hn inv _ i rfl hin hun j h)
  refine ⟨hjn, ?_⟩
  by_cases hji : j = i
  ·subst hji; exact hy.qOp hi H
  ·match f, H with
   | 0, H => exact absurd (hend _ _ H j (ready_mono hj hji)) (by omega)
   | f + 1, H =>
    have h1 := (H.2 j (ready_mono hj hji)).2
    obtain ⟨hjun, oj, hoj, hall⟩ := mem_ready.1 hj
    have hnot : ∀ e ∈ oj.after, Region.binds md e = true → e.on ≠ i := fun e he hb heq => by
     have h2 := hall e he hb
     rw [heq, getD_both hun] at h2
     cases h2
    have h2 := qOp_put hoj (hfree j oj hoj hji hjun hnot) (fun cs b => hsel i oi cs b hi) (fun cs b => hsel j oj cs b hoj) hy h1
    refine qOp_mono (fun a' h3 => headQ_first hi hsel hs hc hn hin hend f (done.setIfInBounds j true) a' (inv.set hj hjn) (fun k ok hk hki hku hno => hfree k ok hk hki ?_ hno) (ready_mono hr (Ne.symm hji)) h3.1 ?_) h2
    ·by_cases hjk : j = k
     ·subst hjk; exact hjun
     ·rwa [getD_set_ne true hjk] at hku
    ·rw [Array.setIfInBounds_comm _ _ hji]
     exact h3.2

theorem headQ_lex {n g : Nat} {Lq : Act → Prop} (hsel : Region.noSelect ops = true) (hs : Region.sinkB md ops n = true) (hc : Region.chainB md ops n = true) (hn : n < ops.size) :
  ∀ (l : List Oper) (k : Nat) (done : Array Bool) (a : Act), (∀ j, j < l.length → l[j]? = ops[k + j]?) → k + l.length = n → HeadInv md ops n done → Region.lexHead md ops g l.length k done = true → wpQuiet P ops C Lq l a →
   headQ P md ops C n (fun done' a' => Region.seqB md ops g n done' = true ∧ Lq a') l.length done a
 | [], k, done, a, _, hk, _, hB, h => by
  obtain rfl : k = n := by simpa using hk
  exact ⟨by simpa [Region.lexHead] using hB, h⟩
 | o :: l, k, done, a, hl, hk, inv, hB, h => by
  have h0 : ops[k]? = some o := by simpa using (hl 0 (by simp)).symm
  simp only [List.length_cons, Region.lexHead, Bool.and_eq_true] at hB
  obtain ⟨⟨hr, hf⟩, hB'⟩ := hB
  have hkn : k < n := by simp only [List.length_cons] at hk; omega
  have hr' : k ∈ Region.ready md ops done := by simpa using hr
  have hst : qOp P ops C k (wpQuiet P ops C Lq l) a := by unfold qOp; simp only [h0]; exact h
  obtain ⟨v, hy, hK⟩ := yieldsIn_of_qOp h0 hst
  refine headQ_first h0 (Region.noSelect_spec hsel) hs hc hn hkn (fun _ _ hL => seqB_ready hL.1) l.length done a inv (Region.free_spec h0 hf) hr' hy (headQ_lex hsel hs hc hn l (k + 1) _ _ (fun j hj => ?_) ?_ (inv.set hr' hkn) hB' hK)
  ·have := hl (j + 1) (by simp; omega)
   simpa [Nat.add_assoc, Nat.add_comm 1 j] using this
  ·simp only [List.length_cons] at hk; omega
end

theorem rd_region_quiet_tail {ro : Option Nat} {k : Nat} {P : Program} {id : Nat} {Q : Act → World → Prop} {C : World → Prop} {a : Act} {w : World} {l : List Oper} (n : Nat) (hd : noDefer l = true) (hm : P.follows .mixedOrders = true) (hB : Region.lexTailB .any l.toArray n = true)
  (hC : C { w with drawn := w.drawn + 1 }) (h : wpQuiet P l.toArray C (fun a' => ∀ w', C w' → wpList P l.toArray (NQ Q) (l.drop n) a' w') (l.take n) a) : (Code.region id l.toArray true).wpIn (Rd ro) k P (NQ Q) a w := by
 simp only [Region.lexTailB, Bool.and_eq_true, decide_eq_true_eq] at hB
 obtain ⟨⟨⟨⟨hsel, hn⟩, hs⟩, hc⟩, hlex⟩ := hB
 have hn' : n < l.length := by simpa using hn
 have htl : (l.take n).length = n := by simp; omega
 have hdl : (l.drop n).length = l.toArray.size - n := by simp
 have hrf : ∀ j, (Array.replicate l.toArray.size false).getD j false = false := fun j => by
  rw [Array.getD_eq_getD_getElem?, Array.getElem?_replicate]; split <;> rfl
 have inv0 : HeadInv .any l.toArray n (Array.replicate l.toArray.size false) :=
  ⟨by simp, fun j oj _ hl => (by rw [hrf] at hl; cases hl), fun t _ ht => getD_in (by simpa using ht) (hrf _)⟩
 have H := headQ_lex (C := C) (md := .any) (g := l.toArray.size - n) hsel hs hc hn (l.take n) 0 _ a (fun j hj => by
  have hj' : j < n := by rw [htl] at hj; exact hj
  simp [hj']) (by simpa using htl) inv0 (by rw [htl]; exact hlex) h
 refine rd_region_any hd hm ?_
 have := headQ_any (Q := NQ Q) (g := l.toArray.size - n) (fun done a' w' hw' hL => by
  have := wpAny_of_seq (md := .any) (Q' := NQ Q) (l.drop n) n done a' w' (fun j => by simp [List.getElem?_drop]) (by rw [hdl]; exact hL.1) (hL.2 w' hw')
  rwa [hdl] at this) _ _ _ _ hC H
 rw [htl, show n + (l.toArray.size - n) = l.toArray.size by omega] at this
 exact this

theorem AW.regionQT {P : Program} {S : St} {Q : Exit → St → Prop} {id : Nat} {l : List Oper} (n : Nat) (hm : P.follows .mixedOrders = true) (hB : Region.lexTailB .any l.toArray n = true)
  (h : Chain true P l.toArray (l.take n) S (fun S' => Chain false P l.toArray (l.drop n) S' (Q .normal))) (hd : noDefer l = true := by rfl) : AW P (.region id l.toArray true) S Q := fun fx a w m => by
 refine Code.wpIn_mono (fun e a w h => by obtain ⟨rfl, h⟩ := h; exact h) (rd_region_quiet_tail (Q := Aft fx Q .normal) (C := Grow w) n hd hm hB ⟨rfl, rfl, rfl, Nat.le_refl _, fun _ _ => rfl⟩
  (h fx a w _ m fun S' a' hc ⟨E, m'⟩ w' hg => hc fx a' w' _ ⟨E, m'.grow hg⟩ fun S2 a2 w2 hq m2 => ⟨rfl, Aft.one hq m2⟩))
theorem AW.seqQT {P : Program} {S : St} {Q : Exit → St → Prop} {id : Nat} {l : List Oper} {y : Code} (n : Nat) (hm : P.follows .mixedOrders = true) (hB : Region.lexTailB .any l.toArray n = true)
  (h : Chain true P l.toArray (l.take n) S (fun S' => Chain false P l.toArray (l.drop n) S' (fun S' => AW P y S' Q))) (hd : noDefer l = true := by rfl) : AW P (.seq (.region id l.toArray true) y) S Q := .seq (.regionQT n hm hB h hd)
theorem FunM.argsF {P : Program} {f : FuncId} {args args' : List V} {h0 : List (Nat × Option Blk)} {rts : List Nat} {v : V} {h1 : List (Nat × Blk)} (h : FunM P f args' h0 rts v h1) (ha : args' = args.map V.wf) : FunM P f args h0 rts v h1 :=
 fun w E vals g ok hx => h w E vals g ok (by subst ha; exact RVs.frz (fun _ _ h => RV.wf h) hx)
end Go.Ab
end
section
namespace Go.Ab
open Go.RowKit

theorem rnmL_map {α : Type} {f : α → V} {g : α → D} (h : ∀ x, f x = .d (g x)) (ρ : List (Nat × Nat)) : ∀ xs : List α, rnmL ρ (xs.map f) = some (xs.map f)
 | [] => rfl
 | x :: xs => by
  rw [List.map_cons]
  unfold rnmL
  rw [rnmL_map h ρ xs, h x]
  rfl
@[simp] theorem rnmL_vB (ρ : List (Nat × Nat)) (xs : List Bool) : rnmL ρ (xs.map vB) = some (xs.map vB) := rnmL_map (g := dB) (fun _ => rfl) ρ xs
theorem part_agg {P : Program} {T : TypeId} {ti : TI} (hT : tyOf P T = some ti) (hr : isRow ti.desc = true) {l s : Array Value} {i : Nat} (h : l.extract i (i + ti.size) = s) (w : World) : (part T l i).run P w = .ok (.agg s) w := by
 have hu := run_und hT w
 unfold isRow TypeDesc.row at hr
 have hagg : (isAgg T).run P w = .ok true w := by
  unfold isAgg
  rw [Sem.run_bind, hu]
  cases hd : ti.desc <;> simp_all
 simp [part, hagg, run_sizeOf hT w, h]
end Go.Ab
end
section
namespace Go.Ab
open Go.RowKit
theorem csome {n : Int} {β : Type} {k : Int → Option β} {r : β} (h : (chkI n).bind k = some r) : ∃ v, IntKind.i64.wrap n = v ∧ k v = some r := by
 obtain ⟨v, h1, h2⟩ := bsome h
 exact ⟨v, chkI_some h1, h2⟩
theorem xsome {α β : Type} {xs : List α} {i : Int} {k : α → Option β} {r : β} (h : (idx xs i).bind k = some r) : ∃ x n, i.toNat = n ∧ xs[n]? = some x ∧ 0 ≤ i ∧ i < xs.length ∧ k x = some r := by
 obtain ⟨x, h1, h2⟩ := bsome h
 obtain ⟨n, h3, h4, h5, h6⟩ := idx_some h1
 exact ⟨x, n, h3, h4, h5, h6, h2⟩
inductive Ran : Option (List Oper × St) → List Oper → St → Prop
 | mk {l : List Oper} {S : St} : Ran (some (l, S)) l S
theorem Chain.rr {P : Program} {ops : Array Oper} {l l' : List Oper} {S S' : St} {Q : St → Prop} (n : Nat) (h : Chain false P ops l' S' Q) (e : Ran (Ab.runM (tyOf P) [] ops n l S) l' S' := by simp; exact .mk) : Chain false P ops l S Q := by
 refine .rk n fun K k => ?_
 generalize Ab.runM (tyOf P) [] ops n l S = o at e ⊢
 cases e
 exact k h
theorem thenQ_ps {K : St → Prop} {S : St} {Q : Exit → St → Prop} {e : Exit} (h : Q e S) (he : e ≠ .normal := by simp) : thenQ K Q e S := thenQ_pass he h
theorem FinC.rs {P : Program} {fn : Func} {v : V} {S : St} (h1 : v.closed = true := by simp) (h2 : outV (tyOf P) fn.results.toList S = some v := by simp) : FinC P fn v .ret S := .ret h1 h2
theorem PostI.os {σ ρ : Type} {S : St} {I : σ → St} {r r' : ρ} {Q : Exit → St → Prop} {e : Exit} (h : r' = r → Q e S) (he : e ≠ .normal := by simp) : PostI I r Q (.inr r') e S := .out he h
theorem Sub.tT {nt : Nat} {rts : List Nat} {l l' : List (Nat × V)} {h h' : List (Nat × Option Blk)} (hl : ∀ p ∈ l', p.2 = tlook l p.1 := by simp [T]) (hh : ∀ p ∈ h', p.2 = hlook h p.1 := by simp [T]) : Sub (mk nt rts l h) (mk nt rts l' h') := .table hl hh
end Go.Ab
end
