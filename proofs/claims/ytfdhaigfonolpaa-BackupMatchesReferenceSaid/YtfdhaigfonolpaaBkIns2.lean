/- slices.Insert of one element into an own row: the contract. -/
import Derived.Test.YtfdhaigfonolpaaBkIns
import Derived.Test.YtfdhaigfonolpaaA4
namespace Go.Proofs.Ytfdhaigfonolpaa
open Go.RowKit Go.Lib Go.Ab Go.Rp

set_option maxRecDepth 100000 in
/-- AT THE END -/
theorem ins_end (es : List (List D)) (x : List D) (_hes : ∀ e ∈ es, e.length = 2) (hx : x.length = 2) (hsz : (es.length + 1) * 40 ≤ Rp.reach) :
  FunM Try.prog 39 [.ref 1000 0 es.length, .d (.lit (.int .i64 (es.length : Nat))), .ref 1001 0 1] [(1000, some (.arr 76 2 es)), (1001, some (.arr 76 2 [x]))] [] (.ref 1000 0 (es.length + 1)) [(1000, .arr 76 2 (es ++ [x]))] := by
 refine FunM.enter 95 [(0, .ref 1000 0 es.length), (1, .d (.lit (.int .i64 (es.length : Nat)))), (2, .ref 1001 0 1)] Try.func39 rfl (of_decide_eq_true rfl) rfl rfl ?_
 refine AW.goR [] 1 fun K hK => ?_; simp; refine hK _ ?_; clear hK K
 refine AW.goR [] 3 fun K hK => ?_; simp; refine hK _ ?_; clear hK K
 refine AW.goR [] 3 fun K hK => ?_; simp; refine hK _ ?_; clear hK K
 refine AW.seq ?_
 refine AW.goR [] 2 fun K hK => ?_; simp; refine hK _ ?_; clear hK K
 refine AW.condK fun K1 K2 k1 k2 => ?_; simp; refine k2 ?_; clear k1 k2 K1 K2
 refine AW.skip ?_
 refine AW.goR [] 3 fun K hK => ?_; simp; refine hK _ ?_; clear hK K
 refine AW.seq ?_
 refine AW.goR [] 3 fun K hK => ?_; simp; refine hK _ ?_; clear hK K
 refine AW.condK fun K1 K2 k1 k2 => ?_; simp; refine k1 ?_; clear k1 k2 K1 K2
 refine AW.goR [] 4 fun K hK => ?_; simp [hsz, hx]; refine hK _ ?_; clear hK K
 refine AW.ret ?_
 refine FinF.ret (by simp) ?_
 simp

theorem RDs_cells1 {w : World} {Z : Nat → Prop} : ∀ {ds : List D} {vs : List Value}, RDs w Z ds vs → ∀ v ∈ vs, v.oneCell' = true
 | [], _, h, v, hv => by have : _ = [] := h; rw [this] at hv; cases hv
 | d :: ds, _, ⟨u, r, h, h1, h2⟩, v, hv => by
  rw [h] at hv
  rcases List.mem_cons.1 hv with rfl | hv
  ·exact RD_cell h1
  ·exact RDs_cells1 h2 v hv
theorem RDe_cells1 {w : World} {Z : Nat → Prop} : ∀ {es : List (List D)} {vs : List Value}, RDe w Z es vs → ∀ v ∈ vs, v.oneCell' = true
 | [], _, h, v, hv => by have : _ = [] := h; rw [this] at hv; cases hv
 | e :: es, _, ⟨a, r, h, h1, h2⟩, v, hv => by
  rw [h] at hv
  rcases List.mem_append.1 hv with hv | hv
  ·exact RDs_cells1 h1 v hv
  ·exact RDe_cells1 h2 v hv
theorem unfroz {w : World} {g : Nat} {cs : Array Value} {t : TypeId} (h : w.heap[g]? = some (.cells cs t (0, 0))) (i : Nat) : w.frozen? ⟨g, i, none⟩ = false := by simp [World.frozen?, h]
theorem Post.insN {w w' : World} {E : Env} {A B blk : Blk} (g : GO E (hlook [(1000, some A), (1001, some B)]) w) (ok : E.ok (hlook [(1000, some A), (1001, some B)]) w) {ℓ : Ab.Loc} (hn : (E.loc 1000).nil = false)
  (hown : ∀ b, ℓ.own b → (E.loc 1000).own b ∨ (E.loc 1001).own b ∨ (w.heap.size ≤ b ∧ b < w'.heap.size)) (hold : Hold (E.at 1000 ℓ) w' 1000 blk) (hos : w'.os = w.os) (htp : w'.tape = w.tape) (hout : w'.output = w.output) (hsz : w.heap.size ≤ w'.heap.size)
  (hbl : ∀ k, k < w.heap.size → k ≠ (E.loc 1000).b → w'.heap[k]? = w.heap[k]?) : Post (fxOf w E (hlook [(1000, some A), (1001, some B)]) [] g) (E.at 1000 ℓ) (hlook [(1000, some blk)]) w' := by
 have one : ∀ i, hlook [(1000, some blk)] i ≠ none → i = 1000 := fun i hi => by
  by_cases h : i = 1000
  ·exact h
  ·simp [hlook, h] at hi
 have hat : (E.at 1000 ℓ).loc 1000 = ℓ := by simp [Env.at]
 have h1 : hlook [(1000, some A), (1001, some B)] 1000 ≠ none := by simp [hlook]
 have h2 : hlook [(1000, some A), (1001, some B)] 1001 ≠ none := by simp [hlook]
 refine ⟨⟨?_, ?_, ?_, ?_, ?_⟩, ⟨hos, htp, hout, hsz, fun k hk hL => hbl k hk (fun e => hL ⟨1000, h1, .inl ⟨hn, e.symm⟩⟩)⟩, fun i hi b hb => ?_, fun b hz => .inl hz, fun r hr => (by cases hr)⟩
 ·intro i k hi
  obtain rfl := one i (by rw [hi]; simp)
  simp only [hlook, if_true, Option.some.injEq] at hi
  subst hi
  exact hold
 ·intro i j hi hj hij _ _ _
  exact absurd ((one i hi).trans (one j hj).symm) hij
 ·intro i hi b hb
  obtain rfl := one i hi
  rw [hat] at hb
  rcases hown b hb with h | h | ⟨h, _⟩
  ·exact ok.apart 1000 h1 b h
  ·exact ok.apart 1001 h2 b h
  ·intro hz
   have := ok.zlt _ hz
   omega
 ·intro b hz
  exact Nat.lt_of_lt_of_le (ok.zlt b hz) hsz
 ·intro i hi b hb
  obtain rfl := one i hi
  rw [hat] at hb
  rcases hown b (.inr hb) with h | h | ⟨_, h⟩
  ·exact Nat.lt_of_lt_of_le (ok.own_lt h1 h) hsz
  ·exact Nat.lt_of_lt_of_le (ok.own_lt h2 h) hsz
  ·exact h
 ·obtain rfl := one i hi
  rw [hat] at hb
  rcases hown b hb with h | h | ⟨h, _⟩
  ·exact .inr ⟨1000, h1, h⟩
  ·exact .inr ⟨1001, h2, h⟩
  ·exact .inl h

theorem ins_mid (es : List (List D)) (x : List D) (i : Nat) (hi : i < es.length) (hes : ∀ e ∈ es, e.length = 2) (hx : x.length = 2) (hsz : (es.length + 1) * 40 ≤ Rp.reach) :
  FunM Try.prog 39 [.ref 1000 0 es.length, .d (.lit (.int .i64 (i : Nat))), .ref 1001 0 1] [(1000, some (.arr 76 2 es)), (1001, some (.arr 76 2 [x]))] [] (.ref 1000 0 (es.length + 1)) [(1000, .arr 76 2 (es.take i ++ x :: es.drop i))] := by
 intro w E vals g ok hv
 obtain ⟨x0, _, rfl, h0, x1, _, rfl, h1, x2, _, rfl, h2, rfl⟩ := hv
 obtain ⟨rfl, _⟩ := h1
 have H0 := ok.hold 1000 (.arr 76 2 es) (by simp [hlook])
 have H1 := ok.hold 1001 (.arr 76 2 [x]) (by simp [hlook])
 obtain ⟨a1, a2, a3, a4, a5⟩ := H0
 obtain ⟨b1, b2, b3, b4, b5⟩ := H1
 rcases a5 with ⟨_, a6⟩ | ⟨an, c, flat, ac, al, am, az, aR, at_⟩
 ·rw [a6] at hi; simp at hi
 rcases b5 with ⟨_, b6⟩ | ⟨bn, c1, flat1, bc, bl, bm, bz, bR, bt⟩
 ·simp at b6
 rcases h0 with ⟨z0, _⟩ | ⟨_, hcap, p0, rfl, hp0⟩
 ·rw [an] at z0; cases z0
 rcases h2 with ⟨z0, _⟩ | ⟨_, hcap1, p1, rfl, hp1⟩
 ·rw [bn] at z0; cases z0
 have hp0 := hp0 (.inl rfl)
 have hp1 := hp1 (.inl rfl)
 rw [Nat.zero_mul, a2] at hp0
 rw [Nat.zero_mul, b2] at hp1
 subst hp0
 subst hp1
 have hvb : (E.loc 1001).b ≠ (E.loc 1000).b := ok.inj1 1001 1000 (by simp [hlook]) (by simp [hlook]) bn an (by decide)
 have hfl : flat.length = es.length * 2 := RDe_length aR a3
 have hfl1 : flat1.length = 2 := by have := RDe_length bR b3; simpa using this
 simp only [Nat.sub_zero] at *
 have hget : ∀ (cc : Array Value) (k : Nat) (fl : List Value), cc.toList.take k = fl → ∀ j v, fl[j]? = some v → cc[j]? = some v := fun cc k fl h j v hj => by
  rw [← h, List.getElem?_take] at hj
  split at hj
  ·simpa using hj
  ·cases hj
 have hcs : ∀ j v, flat[j]? = some v → w.cell? ⟨(E.loc 1000).b, j, none⟩ = some v := fun j v hj => by
  simp only [World.cell?, ac]
  exact hget c _ _ at_ j v hj
 have hvs : ∀ j v, flat1[j]? = some v → w.cell? ⟨(E.loc 1001).b, j, none⟩ = some v := fun j v hj => by
  simp only [World.cell?, bc]
  exact hget c1 _ _ bt j v hj
 have h1c : ∀ v ∈ flat, v.oneCell' = true := RDe_cells1 aR
 have h1v : ∀ v ∈ flat1, v.oneCell' = true := RDe_cells1 bR
 have hxv : ∃ vs r, flat1 = vs ++ r ∧ RDs w E.Z x vs ∧ RDe w E.Z [] r := bR
 obtain ⟨vs0, r0, e0, hxs, hr0⟩ := hxv
 have hr0 : r0 = [] := hr0
 subst hr0
 rw [List.append_nil] at e0
 subst e0
 -- the new elements
 have hR' : RDe w E.Z (es.take i ++ x :: es.drop i) (flat.take (i * 2) ++ (flat1 ++ flat.drop (i * 2))) := RDe_append (RDe_take i aR a3) ⟨flat1, _, rfl, hxs, RDe_drop i aR a3⟩
 have hlen' : (es.take i ++ x :: es.drop i).length = es.length + 1 := by simp; omega
 have hes' : ∀ e ∈ es.take i ++ x :: es.drop i, e.length = 2 := fun e he => by
  rcases List.mem_append.1 he with h | h
  ·exact hes e (List.mem_of_mem_take h)
  ·rcases List.mem_cons.1 h with rfl | h
   ·exact hx
   ·exact hes e (List.mem_of_mem_drop h)
 have hbsz : (E.loc 1000).b < w.heap.size := (Array.getElem?_eq_some_iff.1 ac).1
 by_cases hroom : es.length + 1 ≤ (E.loc 1000).cap
 ·have hcsz : c.size = (E.loc 1000).cap * 2 := az
  refine (ins_shift (E.loc 1000).b es.length (E.loc 1000).cap i (E.loc 1001).b (E.loc 1001).cap flat flat1 w hi hroom (by unfold maxLen at am; omega) hvb hfl hfl1 hcs
   (fun j hj => by simp only [World.cell?, ac]; rw [Array.getElem?_eq_getElem (by omega)]; rfl) (fun j hj => unfroz ac j) hvs h1c h1v 76 76 _ _ (by simp [World.shape?, bc]; rfl) (by simp [World.shape?, ac]; rfl) (by omega) (unfroz bc 0) (unfroz bc _)).mono ?_
  rintro e w' ⟨rfl, rfl⟩
  have hdl : (flat.drop (i * 2)).length = (es.length - i) * 2 := by rw [List.length_drop, hfl, Nat.sub_mul]
  obtain ⟨c2, k1, k2⟩ := Ab.heap_setCells (E.loc 1000).b (flat.drop (i * 2)) ((i + 1) * 2) w.drew c ac (by rw [hdl]; omega)
  have hc2 : c2.size = c.size := by
   rw [← Array.length_toList, k2]
   simp
   omega
  obtain ⟨c3, k3, k4⟩ := Ab.heap_setCells (E.loc 1000).b flat1 (i * 2) _ c2 k1 (by omega)
  have hc3 : c3.size = c.size := by
   rw [← Array.length_toList, k4]
   simp
   omega
  have G1 := Ab.grownBy_setCells (E.loc 1000).b (flat.drop (i * 2)) ((i + 1) * 2) w.drew
  have G2 := Ab.grownBy_setCells (E.loc 1000).b flat1 (i * 2) (w.drew.setCells (E.loc 1000).b ((i + 1) * 2) (flat.drop (i * 2)))
  have hsame : ∀ k, k < w.heap.size → k ≠ (E.loc 1000).b → ((w.drew.setCells (E.loc 1000).b ((i + 1) * 2) (flat.drop (i * 2))).setCells (E.loc 1000).b (i * 2) flat1).heap[k]? = w.heap[k]? := fun k hk hne =>
   (G2.block k (Nat.lt_of_lt_of_le hk G1.size) (fun e => hne (Option.some.inj e))).trans (G1.block k hk (fun e => hne (Option.some.inj e)))
  have ht3 : c3.toList.take ((es.length + 1) * 2) = flat.take (i * 2) ++ (flat1 ++ flat.drop (i * 2)) := by
   have e1 : c2.toList.take (i * 2) = flat.take (i * 2) := by
    rw [k2, List.take_append_of_le_length (by rw [List.length_take, Array.length_toList]; omega), List.take_take, ← at_, List.take_take]
    congr 1
    omega
   have hcl : c.toList.length = c.size := Array.length_toList
   have e2 : c2.toList.drop (i * 2 + flat1.length) = flat.drop (i * 2) ++ c.toList.drop ((i + 1) * 2 + (flat.drop (i * 2)).length) := by
    rw [k2, List.drop_append_of_le_length (by rw [List.length_take, hcl, hfl1]; omega), List.drop_of_length_le (by rw [List.length_take, hcl, hfl1]; omega)]
    rfl
   rw [k4, e1, e2, ← List.append_assoc flat1, ← List.append_assoc (flat.take (i * 2))]
   rw [List.take_left' (by simp; omega)]
  refine ⟨_, E.at 1000 ⟨(E.loc 1000).b, 0, 2, (E.loc 1000).cap, false, fun _ => False⟩, .ref 1000 0 (es.length + 1), hlook [(1000, some (.arr 76 2 (es.take i ++ x :: es.drop i)))], rfl, ⟨rfl, by simp [hlook]⟩, .inr ⟨by simp [Env.at], by simp [Env.at]; omega, 0, by simp [Env.at], fun _ => by simp [Env.at]⟩,
   Post.insN g ok an (fun b hb => by
    rcases hb with ⟨_, rfl⟩ | hb
    ·exact .inl (.inl ⟨an, rfl⟩)
    ·exact hb.elim) ?_ (G2.os.trans G1.os) (G2.tape.trans G1.tape) (G2.output.trans G1.output) (Nat.le_trans G1.size G2.size) hsame⟩
  have hk : Keeps E.Z w ((w.drew.setCells (E.loc 1000).b ((i + 1) * 2) (flat.drop (i * 2))).setCells (E.loc 1000).b (i * 2) flat1) := fun k hz => hsame k (ok.zlt k hz) (fun e => ok.apart1 1000 (by simp [hlook]) an (e ▸ hz))
  refine ⟨by simp [Env.at], by simp [Env.at], hes', by decide, .inr ⟨by simp [Env.at], c3, _, by simpa [Env.at] using k3, by simp [Env.at]; omega, by simpa [Env.at] using am, by simp [Env.at]; omega, RDe.keep hk (fun _ h => h) _ _ hR', ?_⟩⟩
  rw [hlen']
  exact ht3
 ·have hbig : (es.length + 1) * 40 ≤ 140737488355328 := by unfold Rp.reach at hsz; omega
  refine (ins_grow (E.loc 1000).b es.length (E.loc 1000).cap i (E.loc 1001).b (E.loc 1001).cap flat flat1 w hi al (by omega) hbig hfl hfl1 hcs hvs h1c h1v).mono ?_
  obtain ⟨G, hG⟩ : ∃ G, G = grownCap w (es.length + 1) (E.loc 1000).cap 76 := ⟨_, rfl⟩
  have hGm : G ≤ maxLen := by rw [hG]; exact grownCap_le_maxLen w _ _ _ (by unfold maxLen; omega)
  rw [← hG]
  clear hG
  rintro e w' ⟨ROW, hRs, hGn, hRt, rfl, rfl⟩
  have hdl : (flat.drop (i * 2)).length = (es.length - i) * 2 := by rw [List.length_drop, hfl, Nat.sub_mul]
  have kk : (w.alloc (.cells ROW 76)).drew.heap[w.heap.size]? = some (.cells ROW 76 (0, 0)) := by
   show (w.heap.push _)[w.heap.size]? = _
   simp
  obtain ⟨c2, k1, k2⟩ := Ab.heap_setCells w.heap.size flat1 (i * 2) _ ROW kk (by omega)
  have hRl : ROW.toList.length = ROW.size := Array.length_toList
  have hc2 : c2.size = ROW.size := by
   rw [← Array.length_toList, k2]
   simp
   omega
  have k1' : ((w.alloc (.cells ROW 76)).drew.setCells w.heap.size (i * 2) flat1).drew.heap[w.heap.size]? = some (.cells c2 76 (0, 0)) := k1
  obtain ⟨c3, k3, k4⟩ := Ab.heap_setCells w.heap.size (flat.drop (i * 2)) ((i + 1) * 2) _ c2 k1' (by rw [hdl]; omega)
  have hc2l : c2.toList.length = c2.size := Array.length_toList
  have hc3 : c3.size = ROW.size := by
   rw [← Array.length_toList, k4]
   simp
   omega
  have G0 : ∀ k, k < w.heap.size → (w.alloc (.cells ROW 76)).drew.heap[k]? = w.heap[k]? := fun k hk => by
   show (w.heap.push _)[k]? = _
   rw [Array.getElem?_push, if_neg (by omega)]
  have G1 := Ab.grownBy_setCells w.heap.size flat1 (i * 2) (w.alloc (.cells ROW 76)).drew
  have G2 := Ab.grownBy_setCells w.heap.size (flat.drop (i * 2)) ((i + 1) * 2) ((w.alloc (.cells ROW 76)).drew.setCells w.heap.size (i * 2) flat1).drew
  have hs0 : w.heap.size + 1 ≤ (w.alloc (.cells ROW 76)).drew.heap.size := by show w.heap.size + 1 ≤ (w.heap.push _).size; simp
  have hsz2' : w.heap.size + 1 ≤ ((((w.alloc (.cells ROW 76)).drew.setCells w.heap.size (i * 2) flat1).drew).setCells w.heap.size ((i + 1) * 2) (flat.drop (i * 2))).heap.size := Nat.le_trans hs0 (Nat.le_trans G1.size G2.size)
  have hsz2 := Nat.le_trans (Nat.le_succ _) hsz2'
  have hsame : ∀ k, k < w.heap.size → ((((w.alloc (.cells ROW 76)).drew.setCells w.heap.size (i * 2) flat1).drew).setCells w.heap.size ((i + 1) * 2) (flat.drop (i * 2))).heap[k]? = w.heap[k]? := fun k hk =>
   (G2.block k (Nat.lt_of_lt_of_le hk (Nat.le_trans (Nat.le_of_succ_le hs0) G1.size)) (fun e => by injection e with e; omega)).trans ((G1.block k (Nat.lt_of_lt_of_le hk (Nat.le_of_succ_le hs0)) (fun e => by injection e with e; omega)).trans (G0 k hk))
  have ht3 : c3.toList.take ((es.length + 1) * 2) = flat.take (i * 2) ++ (flat1 ++ flat.drop (i * 2)) := by
   have e1 : c2.toList.take ((i + 1) * 2) = flat.take (i * 2) ++ flat1 := by
    rw [k2, hRt, ← List.append_assoc]
    exact List.take_left' (by rw [List.length_append, List.length_take]; omega)
   rw [k4, e1, ← List.append_assoc, List.take_left' (by simp; omega), List.append_assoc]
  have hbw := hbsz
  refine ⟨_, E.at 1000 ⟨w.heap.size, 0, 2, G, false, fun _ => False⟩, .ref 1000 0 (es.length + 1), hlook [(1000, some (.arr 76 2 (es.take i ++ x :: es.drop i)))], rfl, ⟨rfl, by simp [hlook]⟩, .inr ⟨by simp [Env.at], by simp [Env.at]; omega, 0, by simp [Env.at], fun _ => by simp [Env.at]⟩,
   Post.insN g ok an (fun b hb => by
    rcases hb with ⟨_, rfl⟩ | hb
    ·exact .inr (.inr ⟨Nat.le_refl _, hsz2'⟩)
    ·exact hb.elim) ?_ (G2.os.trans G1.os) (G2.tape.trans G1.tape) (G2.output.trans G1.output) hsz2 (fun k hk _ => hsame k hk)⟩
  have hk : Keeps E.Z w ((((w.alloc (.cells ROW 76)).drew.setCells w.heap.size (i * 2) flat1).drew).setCells w.heap.size ((i + 1) * 2) (flat.drop (i * 2))) := fun k hz => hsame k (ok.zlt k hz)
  refine ⟨by simp [Env.at], by simp [Env.at], hes', by decide, .inr ⟨by simp [Env.at], c3, _, by simpa [Env.at] using k3, by simp [Env.at]; omega, by simpa [Env.at] using hGm, by simp [Env.at]; omega, RDe.keep hk (fun _ h => h) _ _ hR', ?_⟩⟩
  rw [hlen']
  exact ht3

def insL {α : Type} (b : Nat) (xs : List α) (i : Int) (ys : List α) : Option (List α) := if 0 ≤ i ∧ i ≤ xs.length ∧ (xs.length + 1) * b ≤ Rp.reach then (match ys with | [y] => some (xs.take i.toNat ++ y :: xs.drop i.toNat) | _ => none) else none
/-- slices.Insert of one element -/
theorem ins_funM {α : Type} (c : α → List D) (hc : ∀ x, (c x).length = 2) (xs ys : List α) (i : Int) (r : List α) (h : insL 40 xs i ys = some r) :
  FunM Try.prog 39 [.ref 1000 0 xs.length, .d (.lit (.int .i64 i)), .ref 1001 0 ys.length] [(1000, some (.arr 76 2 (xs.map c))), (1001, some (.arr 76 2 (ys.map c)))] [] (.ref 1000 0 r.length) [(1000, .arr 76 2 (r.map c))] := by
 unfold insL at h
 split at h
 case isFalse => cases h
 rename_i hh
 obtain ⟨h1, h2, h3⟩ := hh
 split at h
 ·rename_i y
  injection h with h
  subst h
  obtain ⟨k, rfl⟩ : ∃ k : Nat, i = k := ⟨i.toNat, by omega⟩
  have hes : ∀ e ∈ xs.map c, e.length = 2 := fun e he => by
   obtain ⟨z, _, rfl⟩ := List.mem_map.1 he
   exact hc z
  have hlen : (xs.take k ++ y :: xs.drop k).length = xs.length + 1 := by simp; omega
  simp only [Int.toNat_natCast, hlen]
  rcases Nat.lt_or_ge k xs.length with hk | hk
  ·have := ins_mid (xs.map c) (c y) k (by simpa using hk) hes (hc y) (by simpa using h3)
   simpa [List.map_take, List.map_drop] using this
  ·obtain rfl : k = xs.length := by omega
   have := ins_end (xs.map c) (c y) hes (hc y) (by simpa using h3)
   simpa using this
 ·cases h
end Go.Proofs.Ytfdhaigfonolpaa
