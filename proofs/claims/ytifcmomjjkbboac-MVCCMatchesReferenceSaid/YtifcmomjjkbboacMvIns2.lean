/- slices.Insert of one element into a row of rows: the contract. -/
import Derived.Test.YtifcmomjjkbboacMvIns
namespace Go.Proofs.Ytifcmomjjkbboac
open Go.RowKit Go.Lib Go.Ab Go.Rp

theorem unfroz {w : World} {g : Nat} {cs : Array Value} {t : TypeId} (h : w.heap[g]? = some (.cells cs t (0, 0))) (i : Nat) : w.frozen? ⟨g, i, none⟩ = false := by simp [World.frozen?, h]
theorem Post.insN {w w' : World} {E : Env} {A B blk : Blk} (g : GO E (hlook [(1000, some A), (1001, some B)]) w) (ok : E.ok (hlook [(1000, some A), (1001, some B)]) w) {ℓ : Ab.Loc} (hn : (E.loc 1000).nil = false)
  (hown : ∀ b, ℓ.own b → (E.loc 1000).own b ∨ (E.loc 1001).own b ∨ (w.heap.size ≤ b ∧ b < w'.heap.size)) (hold : Hold (E.at 1000 ℓ) w' 1000 blk) (hos : w'.os = w.os) (htp : w'.tape = w.tape) (hout : w'.output = w.output) (hsz : w.heap.size ≤ w'.heap.size)
  (hbl : ∀ k, k < w.heap.size → k ≠ (E.loc 1000).b → w'.heap[k]? = w.heap[k]?) : Post (fxOf w E (hlook [(1000, some A), (1001, some B)]) [] g) (E.at 1000 ℓ) (hlook [(1000, some blk)]) w' := by
 have one : ∀ i, hlook [(1000, some blk)] i ≠ none → i = 1000 := fun i hi => by
  by_cases h : i = 1000
  ·exact h
  ·simp [hlook, h] at hi
 have hat : (E.at 1000 ℓ).loc 1000 = ℓ := by simp [Env.at]
 have h1 : hlook [(1000, some A), (1001, some B)] 1000 ≠ none := by simp [hlook]
 have h2 : hlook [(1000, some A), (1001, some B)] 1001 ≠ none := by simp [hlook]
 refine ⟨⟨?_, ?_, ?_, ?_, ?_⟩, ⟨hos, htp, hout, hsz, fun k hk hL => hbl k hk (fun e => hL ⟨1000, h1, .inl ⟨hn, e.symm⟩⟩)⟩, fun i hi b hb => ?_, fun b hz => .inl hz, fun r hr => (by cases hr)⟩
 ·intro i k hi
  obtain rfl := one i (by rw [hi]; simp)
  simp only [hlook, if_true, Option.some.injEq] at hi
  subst hi
  exact hold
 ·intro i j hi hj hij _ _ _
  exact absurd ((one i hi).trans (one j hj).symm) hij
 ·intro i hi b hb
  obtain rfl := one i hi
  rw [hat] at hb
  rcases hown b hb with h | h | ⟨h, _⟩
  ·exact ok.apart 1000 h1 b h
  ·exact ok.apart 1001 h2 b h
  ·intro hz
   have := ok.zlt _ hz
   omega
 ·intro b hz
  exact Nat.lt_of_lt_of_le (ok.zlt b hz) hsz
 ·intro i hi b hb
  obtain rfl := one i hi
  rw [hat] at hb
  rcases hown b (.inr hb) with h | h | ⟨_, h⟩
  ·exact Nat.lt_of_lt_of_le (ok.own_lt h1 h) hsz
  ·exact Nat.lt_of_lt_of_le (ok.own_lt h2 h) hsz
  ·exact h
 ·obtain rfl := one i hi
  rw [hat] at hb
  rcases hown b hb with h | h | ⟨h, _⟩
  ·exact .inr ⟨1000, h1, h⟩
  ·exact .inr ⟨1001, h2, h⟩
  ·exact .inl h

set_option maxRecDepth 100000 in
/-- AT THE END -/
theorem ins_endN (sh : List (Option (TypeId × Nat))) (es : List (List D)) (x : List D) (hsz : (es.length + 1) * 40 ≤ Rp.reach) :
  FunM Try.prog 32 [.ref 1000 0 es.length, .d (.lit (.int .i64 (es.length : Nat))), .ref 1001 0 1] [(1000, some (.nest 72 2 sh es [])), (1001, some (.nest 72 2 sh [x] []))] [] (.ref 1000 0 (es.length + 1)) [(1000, .nest 72 2 sh (es ++ [x]) [])] := by
 refine FunM.enter 95 [(0, .ref 1000 0 es.length), (1, .d (.lit (.int .i64 (es.length : Nat)))), (2, .ref 1001 0 1)] Try.func32 rfl (of_decide_eq_true rfl) rfl rfl ?_
 refine AW.goR [] 1 fun K hK => ?_; simp; refine hK _ ?_; clear hK K
 refine AW.seqR ?_
 refine Chain.runK [] 2 fun K hK => ?_; simp; refine hK _ _ ?_; clear hK K
 refine Chain.sliceJ (id := 1000) (off := 0) (len := es.length) (hq := es.length) (lq := es.length) (by simp) rfl ty61 rfl ty72 rfl (by simp [bnd]) (by simp [bnd]) ?_
 refine Chain.nil ?_
 refine AW.goR [] 3 fun K hK => ?_; simp; refine hK _ ?_; clear hK K
 refine AW.seq ?_
 refine AW.goR [] 2 fun K hK => ?_; simp; refine hK _ ?_; clear hK K
 refine AW.condK fun K1 K2 k1 k2 => ?_; simp; refine k2 ?_; clear k1 k2 K1 K2
 refine AW.skip ?_
 refine AW.goR [] 3 fun K hK => ?_; simp; refine hK _ ?_; clear hK K
 refine AW.seq ?_
 refine AW.goR [] 3 fun K hK => ?_; simp; refine hK _ ?_; clear hK K
 refine AW.condK fun K1 K2 k1 k2 => ?_; simp; refine k1 ?_; clear k1 k2 K1 K2
 refine AW.seqR ?_
 refine Chain.runK [] 2 fun K hK => ?_; simp; refine hK _ _ ?_; clear hK K
 refine Chain.appN (id := 1000) (k := 1001) (sh := sh) (es := es) (ys := [x]) (te := ⟨_, 2, 40, _⟩) (by simp) rfl rfl rfl rfl ty61 rfl ty72 rfl List.not_mem_nil rfl rfl List.not_mem_nil rfl (by decide) Nat.zero_lt_one (by decide) rfl (by simpa using hsz) ?_
 refine Chain.runK [] 1 fun K hK => ?_; simp; refine hK _ _ ?_; clear hK K
 refine Chain.nil ?_
 refine AW.ret ?_
 refine FinF.ret (by simp) ?_
 simp

theorem NDis.three {ℓ0 ℓ1 ℓ : Ab.Loc} {l1 l2 ls1 : List Ab.Loc} (ha : NDis ℓ0 (l1 ++ l2)) (hb : NDis ℓ1 ls1) (hd : ∀ b, ℓ0.own b → ¬ ℓ1.own b) (hx : ℓ.xs = fun b => ℓ0.xs b ∨ ℓ1.xs b) (hm : ∀ b, (ℓ0.own b ∧ ¬ (ℓ0.nil = false ∧ ℓ0.b = b)) ∨ ℓ1.xs b → ℓ.nil = false → ℓ.b ≠ b) : NDis ℓ (l1 ++ (ls1 ++ l2)) := by
 obtain ⟨a1, a2⟩ := ha
 obtain ⟨b1, b2⟩ := hb
 rw [blks_append] at a1
 have h1 := List.nodup_append.1 a1
 have in0 : ∀ b, b ∈ blks l1 ∨ b ∈ blks l2 → ℓ0.xs b ∧ (ℓ0.nil = false → ℓ0.b ≠ b) := fun b hb => a2 b (by rw [blks_append]; exact List.mem_append.2 hb)
 refine ⟨?_, fun b hb => ?_⟩
 ·rw [blks_append, blks_append]
  refine List.nodup_append.2 ⟨h1.1, List.nodup_append.2 ⟨b1, h1.2.1, fun x hx y hy e => ?_⟩, fun x hx y hy e => ?_⟩
  ·subst e
   exact hd x (.inr (in0 x (.inr hy)).1) (.inr (b2 x hx).1)
  ·subst e
   rcases List.mem_append.1 hy with hy | hy
   ·exact hd x (.inr (in0 x (.inl hx)).1) (.inr (b2 x hy).1)
   ·exact h1.2.2 x hx x hy rfl
 ·rw [blks_append, blks_append] at hb
  have hc : (b ∈ blks l1 ∨ b ∈ blks l2) ∨ b ∈ blks ls1 := by
   rcases List.mem_append.1 hb with h | h
   ·exact .inl (.inl h)
   ·rcases List.mem_append.1 h with h | h
    ·exact .inr h
    ·exact .inl (.inr h)
  rw [hx]
  rcases hc with h | h
  ·obtain ⟨p1, p2⟩ := in0 b h
   exact ⟨.inl p1, hm b (.inl ⟨.inr p1, fun h => p2 h.1 h.2⟩)⟩
  ·exact ⟨.inr (b2 b h).1, hm b (.inr (b2 b h).1)⟩

theorem ins_midN (sh : List (Option (TypeId × Nat))) (es : List (List D)) (x : List D) (i : Nat) (hi : i < es.length) (hsz : (es.length + 1) * 40 ≤ Rp.reach) :
  FunM Try.prog 32 [.ref 1000 0 es.length, .d (.lit (.int .i64 (i : Nat))), .ref 1001 0 1] [(1000, some (.nest 72 2 sh es [])), (1001, some (.nest 72 2 sh [x] []))] [] (.ref 1000 0 (es.length + 1)) [(1000, .nest 72 2 sh (es.take i ++ x :: es.drop i) [])] := by
 intro w E vals g ok hv
 obtain ⟨x0, _, rfl, h0, x1, _, rfl, h1, x2, _, rfl, h2, rfl⟩ := hv
 obtain ⟨rfl, _⟩ := h1
 have H0 := ok.hold 1000 (.nest 72 2 sh es []) (by simp [hlook])
 have H1 := ok.hold 1001 (.nest 72 2 sh [x] []) (by simp [hlook])
 obtain ⟨a1, a2, hes, a4, hsh, _, a5⟩ := H0
 obtain ⟨b1, b2, b3, b4, _, _, b5⟩ := H1
 rcases a5 with ⟨_, a6⟩ | ⟨an, c, flat, ls, ac, al, am, az, aR, at_, ad⟩
 ·rw [a6] at hi; simp at hi
 rcases b5 with ⟨_, b6⟩ | ⟨bn, c1, flat1, ls1, bc, bl, bm, bz, bR, bt, bd⟩
 ·simp at b6
 rcases h0 with ⟨z0, _⟩ | ⟨_, hcap, p0, rfl, hp0⟩
 ·rw [an] at z0; cases z0
 rcases h2 with ⟨z0, _⟩ | ⟨_, hcap1, p1, rfl, hp1⟩
 ·rw [bn] at z0; cases z0
 have hp0 := hp0 (.inl rfl)
 have hp1 := hp1 (.inl rfl)
 rw [Nat.zero_mul, a2] at hp0
 rw [Nat.zero_mul, b2] at hp1
 subst hp0
 subst hp1
 have e0 : hlook [(1000, some (Blk.nest 72 2 sh es [])), (1001, some (Blk.nest 72 2 sh [x] []))] 1000 ≠ none := by simp [hlook]
 have e1 : hlook [(1000, some (Blk.nest 72 2 sh es [])), (1001, some (Blk.nest 72 2 sh [x] []))] 1001 ≠ none := by simp [hlook]
 have hvb : (E.loc 1001).b ≠ (E.loc 1000).b := ok.inj1 1001 1000 e1 e0 bn an (by decide)
 have hfl : flat.length = es.length * 2 := RNe_length 0 es flat ls hes aR
 have hfl1 : flat1.length = 2 := by have := RNe_length 0 [x] flat1 ls1 b3 bR; simpa using this
 simp only [Nat.sub_zero] at *
 have hget : ∀ (cc : Array Value) (k : Nat) (fl : List Value), cc.toList.take k = fl → ∀ j v, fl[j]? = some v → cc[j]? = some v := fun cc k fl h j v hj => by
  rw [← h, List.getElem?_take] at hj
  split at hj
  ·simpa using hj
  ·cases hj
 have hcs : ∀ j v, flat[j]? = some v → w.cell? ⟨(E.loc 1000).b, j, none⟩ = some v := fun j v hj => by
  simp only [World.cell?, ac]
  exact hget c _ _ at_ j v hj
 have hvs : ∀ j v, flat1[j]? = some v → w.cell? ⟨(E.loc 1001).b, j, none⟩ = some v := fun j v hj => by
  simp only [World.cell?, bc]
  exact hget c1 _ _ bt j v hj
 have h1c : ∀ v ∈ flat, v.oneCell' = true := RDe_cell (RNe.data (Z' := fun b => E.Z b ∨ b ∈ blks ls) (fun _ h => .inl h) 0 es flat ls (fun b hb => .inr hb) aR)
 have h1v : ∀ v ∈ flat1, v.oneCell' = true := RDe_cell (RNe.data (Z' := fun b => E.Z b ∨ b ∈ blks ls1) (fun _ h => .inl h) 0 [x] flat1 ls1 (fun b hb => .inr hb) bR)
 -- the new elements
 obtain ⟨l1, l2, hl, r1, r2⟩ := RNe_cut hsh 0 i es flat ls hes aR (Nat.le_of_lt hi)
 subst hl
 have hR' : RNe E w sh [] 0 (es.take i ++ x :: es.drop i) (flat.take (i * 2) ++ (flat1 ++ flat.drop (i * 2))) (l1 ++ (ls1 ++ l2)) := RNe_app 0 _ _ _ _ _ _ r1 (RNe_app 0 [x] _ _ _ _ _ bR r2)
 have hlen' : (es.take i ++ x :: es.drop i).length = es.length + 1 := by simp; omega
 have hes' : ∀ e ∈ es.take i ++ x :: es.drop i, e.length = 2 := fun e he => by
  rcases List.mem_append.1 he with h | h
  ·exact hes e (List.mem_of_mem_take h)
  ·rcases List.mem_cons.1 h with rfl | h
   ·exact b3 e (.head _)
   ·exact hes e (List.mem_of_mem_drop h)
 have hbsz : (E.loc 1000).b < w.heap.size := (Array.getElem?_eq_some_iff.1 ac).1
 have hinn : ∀ b ∈ blks (l1 ++ (ls1 ++ l2)), b < w.heap.size ∧ b ≠ (E.loc 1000).b := fun b hb => by
  have h : (b ∈ blks (l1 ++ l2)) ∨ b ∈ blks ls1 := by
   rw [blks_append, blks_append] at hb
   rw [blks_append]
   rcases List.mem_append.1 hb with h | h
   ·exact .inl (List.mem_append_left _ h)
   ·rcases List.mem_append.1 h with h | h
    ·exact .inr h
    ·exact .inl (List.mem_append_right _ h)
  rcases h with h | h
  ·obtain ⟨p1, p2⟩ := ad.2 b h
   exact ⟨ok.xlt 1000 e0 b p1, fun e => p2 an e.symm⟩
  ·obtain ⟨p1, p2⟩ := bd.2 b h
   exact ⟨ok.xlt 1001 e1 b p1, fun e => ok.inj 1001 1000 e1 e0 (by decide) b (.inr p1) (.inl ⟨an, e.symm⟩)⟩
 have hdis : ∀ b, (E.loc 1000).own b → ¬ (E.loc 1001).own b := ok.inj 1000 1001 e0 e1 (by decide)
 by_cases hroom : es.length + 1 ≤ (E.loc 1000).cap
 ·have hcsz : c.size = (E.loc 1000).cap * 2 := az
  refine (ins_shift (E.loc 1000).b es.length (E.loc 1000).cap i (E.loc 1001).b (E.loc 1001).cap flat flat1 w hi hroom (by unfold maxLen at am; omega) hvb hfl hfl1 hcs
   (fun j hj => by simp only [World.cell?, ac]; rw [Array.getElem?_eq_getElem (by omega)]; rfl) (fun j hj => unfroz ac j) hvs h1c h1v 72 72 _ _ (by simp [World.shape?, bc]; rfl) (by simp [World.shape?, ac]; rfl) (by omega) (unfroz bc 0) (unfroz bc _)).mono ?_
  rintro e w' ⟨rfl, rfl⟩
  have hdl : (flat.drop (i * 2)).length = (es.length - i) * 2 := by rw [List.length_drop, hfl, Nat.sub_mul]
  obtain ⟨c2, k1, k2⟩ := Ab.heap_setCells (E.loc 1000).b (flat.drop (i * 2)) ((i + 1) * 2) w.drew c ac (by rw [hdl]; omega)
  have hc2 : c2.size = c.size := by
   rw [← Array.length_toList, k2]
   simp
   omega
  obtain ⟨c3, k3, k4⟩ := Ab.heap_setCells (E.loc 1000).b flat1 (i * 2) _ c2 k1 (by omega)
  have hc3 : c3.size = c.size := by
   rw [← Array.length_toList, k4]
   simp
   omega
  have G1 := Ab.grownBy_setCells (E.loc 1000).b (flat.drop (i * 2)) ((i + 1) * 2) w.drew
  have G2 := Ab.grownBy_setCells (E.loc 1000).b flat1 (i * 2) (w.drew.setCells (E.loc 1000).b ((i + 1) * 2) (flat.drop (i * 2)))
  have hsame : ∀ k, k < w.heap.size → k ≠ (E.loc 1000).b → ((w.drew.setCells (E.loc 1000).b ((i + 1) * 2) (flat.drop (i * 2))).setCells (E.loc 1000).b (i * 2) flat1).heap[k]? = w.heap[k]? := fun k hk hne =>
   (G2.block k (Nat.lt_of_lt_of_le hk G1.size) (fun e => hne (Option.some.inj e))).trans (G1.block k hk (fun e => hne (Option.some.inj e)))
  have ht3 : c3.toList.take ((es.length + 1) * 2) = flat.take (i * 2) ++ (flat1 ++ flat.drop (i * 2)) := by
   have e1 : c2.toList.take (i * 2) = flat.take (i * 2) := by
    rw [k2, List.take_append_of_le_length (by rw [List.length_take, Array.length_toList]; omega), List.take_take, ← at_, List.take_take]
    congr 1
    omega
   have hcl : c.toList.length = c.size := Array.length_toList
   have e2 : c2.toList.drop (i * 2 + flat1.length) = flat.drop (i * 2) ++ c.toList.drop ((i + 1) * 2 + (flat.drop (i * 2)).length) := by
    rw [k2, List.drop_append_of_le_length (by rw [List.length_take, hcl, hfl1]; omega), List.drop_of_length_le (by rw [List.length_take, hcl, hfl1]; omega)]
    rfl
   rw [k4, e1, e2, ← List.append_assoc flat1, ← List.append_assoc (flat.take (i * 2))]
   rw [List.take_left' (by simp; omega)]
  have hk : Keeps E.Z w ((w.drew.setCells (E.loc 1000).b ((i + 1) * 2) (flat.drop (i * 2))).setCells (E.loc 1000).b (i * 2) flat1) := fun k hz => hsame k (ok.zlt k hz) (fun e => ok.apart1 1000 e0 an (e ▸ hz))
  refine ⟨_, E.at 1000 ⟨(E.loc 1000).b, 0, 2, (E.loc 1000).cap, false, fun b => (E.loc 1000).xs b ∨ (E.loc 1001).xs b⟩, .ref 1000 0 (es.length + 1), hlook [(1000, some (.nest 72 2 sh (es.take i ++ x :: es.drop i) []))], rfl, ⟨rfl, by simp [hlook]⟩, .inr ⟨by simp [Env.at], by simp [Env.at]; omega, 0, by simp [Env.at], fun _ => by simp [Env.at]⟩,
   Post.insN g ok an (fun b hb => ?_) ?_ (G2.os.trans G1.os) (G2.tape.trans G1.tape) (G2.output.trans G1.output) (Nat.le_trans G1.size G2.size) hsame⟩
  ·rcases hb with ⟨_, rfl⟩ | hb | hb
   ·exact .inl (.inl ⟨an, rfl⟩)
   ·exact .inl (.inr hb)
   ·exact .inr (.inl (.inr hb))
  refine ⟨by simp [Env.at], by simp [Env.at], hes', by decide, hsh, (fun p hp => by cases hp), .inr ⟨by simp [Env.at], c3, _, l1 ++ (ls1 ++ l2), by simpa [Env.at] using k3, by simp [Env.at]; omega, by simpa [Env.at] using am, by simp [Env.at]; omega, RNe.upd 0 _ _ _ (RNe.keep (E' := E) hk (fun _ h => h) rfl 0 _ _ _ (fun b hb => hsame b (hinn b hb).1 (hinn b hb).2) hR'), ?_, ?_⟩⟩
  ·rw [hlen']
   exact ht3
  ·refine NDis.three ad bd hdis (by simp [Env.at]) (fun b hb _ e => ?_)
   simp only [Env.at, if_true] at e
   rcases hb with ⟨_, h⟩ | h
   ·exact h ⟨an, e⟩
   ·exact hdis b (.inl ⟨an, e⟩) (.inr h)
 ·have hbig : (es.length + 1) * 40 ≤ 140737488355328 := by unfold Rp.reach at hsz; omega
  refine (ins_grow (E.loc 1000).b es.length (E.loc 1000).cap i (E.loc 1001).b (E.loc 1001).cap flat flat1 w hi al (by omega) hbig hfl hfl1 hcs hvs h1c h1v).mono ?_
  obtain ⟨G, hG⟩ : ∃ G, G = grownCap w (es.length + 1) (E.loc 1000).cap 72 := ⟨_, rfl⟩
  have hGm : G ≤ maxLen := by rw [hG]; exact grownCap_le_maxLen w _ _ _ (by unfold maxLen; omega)
  rw [← hG]
  clear hG
  rintro e w' ⟨ROW, hRs, hGn, hRt, rfl, rfl⟩
  have hdl : (flat.drop (i * 2)).length = (es.length - i) * 2 := by rw [List.length_drop, hfl, Nat.sub_mul]
  have kk : (w.alloc (.cells ROW 72)).drew.heap[w.heap.size]? = some (.cells ROW 72 (0, 0)) := by
   show (w.heap.push _)[w.heap.size]? = _
   simp
  obtain ⟨c2, k1, k2⟩ := Ab.heap_setCells w.heap.size flat1 (i * 2) _ ROW kk (by omega)
  have hRl : ROW.toList.length = ROW.size := Array.length_toList
  have hc2 : c2.size = ROW.size := by
   rw [← Array.length_toList, k2]
   simp
   omega
  have k1' : ((w.alloc (.cells ROW 72)).drew.setCells w.heap.size (i * 2) flat1).drew.heap[w.heap.size]? = some (.cells c2 72 (0, 0)) := k1
  obtain ⟨c3, k3, k4⟩ := Ab.heap_setCells w.heap.size (flat.drop (i * 2)) ((i + 1) * 2) _ c2 k1' (by rw [hdl]; omega)
  have hc2l : c2.toList.length = c2.size := Array.length_toList
  have hc3 : c3.size = ROW.size := by
   rw [← Array.length_toList, k4]
   simp
   omega
  have G0 : ∀ k, k < w.heap.size → (w.alloc (.cells ROW 72)).drew.heap[k]? = w.heap[k]? := fun k hk => by
   show (w.heap.push _)[k]? = _
   rw [Array.getElem?_push, if_neg (by omega)]
  have G1 := Ab.grownBy_setCells w.heap.size flat1 (i * 2) (w.alloc (.cells ROW 72)).drew
  have G2 := Ab.grownBy_setCells w.heap.size (flat.drop (i * 2)) ((i + 1) * 2) ((w.alloc (.cells ROW 72)).drew.setCells w.heap.size (i * 2) flat1).drew
  have hs0 : w.heap.size + 1 ≤ (w.alloc (.cells ROW 72)).drew.heap.size := by show w.heap.size + 1 ≤ (w.heap.push _).size; simp
  have hsz2' : w.heap.size + 1 ≤ ((((w.alloc (.cells ROW 72)).drew.setCells w.heap.size (i * 2) flat1).drew).setCells w.heap.size ((i + 1) * 2) (flat.drop (i * 2))).heap.size := Nat.le_trans hs0 (Nat.le_trans G1.size G2.size)
  have hsz2 := Nat.le_trans (Nat.le_succ _) hsz2'
  have hsame : ∀ k, k < w.heap.size → ((((w.alloc (.cells ROW 72)).drew.setCells w.heap.size (i * 2) flat1).drew).setCells w.heap.size ((i + 1) * 2) (flat.drop (i * 2))).heap[k]? = w.heap[k]? := fun k hk =>
   (G2.block k (Nat.lt_of_lt_of_le hk (Nat.le_trans (Nat.le_of_succ_le hs0) G1.size)) (fun e => by injection e with e; omega)).trans ((G1.block k (Nat.lt_of_lt_of_le hk (Nat.le_of_succ_le hs0)) (fun e => by injection e with e; omega)).trans (G0 k hk))
  have ht3 : c3.toList.take ((es.length + 1) * 2) = flat.take (i * 2) ++ (flat1 ++ flat.drop (i * 2)) := by
   have e1 : c2.toList.take ((i + 1) * 2) = flat.take (i * 2) ++ flat1 := by
    rw [k2, hRt, ← List.append_assoc]
    exact List.take_left' (by rw [List.length_append, List.length_take]; omega)
   rw [k4, e1, ← List.append_assoc, List.take_left' (by simp; omega), List.append_assoc]
  have hk : Keeps E.Z w ((((w.alloc (.cells ROW 72)).drew.setCells w.heap.size (i * 2) flat1).drew).setCells w.heap.size ((i + 1) * 2) (flat.drop (i * 2))) := fun k hz => hsame k (ok.zlt k hz)
  refine ⟨_, E.at 1000 ⟨w.heap.size, 0, 2, G, false, fun b => (E.loc 1000).xs b ∨ (E.loc 1001).xs b⟩, .ref 1000 0 (es.length + 1), hlook [(1000, some (.nest 72 2 sh (es.take i ++ x :: es.drop i) []))], rfl, ⟨rfl, by simp [hlook]⟩, .inr ⟨by simp [Env.at], by simp [Env.at]; omega, 0, by simp [Env.at], fun _ => by simp [Env.at]⟩,
   Post.insN g ok an (fun b hb => ?_) ?_ (G2.os.trans G1.os) (G2.tape.trans G1.tape) (G2.output.trans G1.output) hsz2 (fun k hk _ => hsame k hk)⟩
  ·rcases hb with ⟨_, rfl⟩ | hb | hb
   ·exact .inr (.inr ⟨Nat.le_refl _, hsz2'⟩)
   ·exact .inl (.inr hb)
   ·exact .inr (.inl (.inr hb))
  refine ⟨by simp [Env.at], by simp [Env.at], hes', by decide, hsh, (fun p hp => by cases hp), .inr ⟨by simp [Env.at], c3, _, l1 ++ (ls1 ++ l2), by simpa [Env.at] using k3, by simp [Env.at]; omega, by simpa [Env.at] using hGm, by simp [Env.at]; omega, RNe.upd 0 _ _ _ (RNe.keep (E' := E) hk (fun _ h => h) rfl 0 _ _ _ (fun b hb => hsame b (hinn b hb).1) hR'), ?_, ?_⟩⟩
  ·rw [hlen']
   exact ht3
  ·refine NDis.three ad bd hdis (by simp [Env.at]) (fun b hb _ e => ?_)
   simp only [Env.at, if_true] at e
   rcases hb with ⟨h, _⟩ | h
   ·have := ok.own_lt e0 h; omega
   ·have := ok.own_lt e1 (.inr h); omega

def insL {α : Type} (b : Nat) (xs : List α) (i : Int) (ys : List α) : Option (List α) := if 0 ≤ i ∧ i ≤ xs.length ∧ (xs.length + 1) * b ≤ Rp.reach then (match ys with | [y] => some (xs.take i.toNat ++ y :: xs.drop i.toNat) | _ => none) else none
/-- slices.Insert of one element -/
theorem ins_funM {α : Type} (c : α → List D) (sh : List (Option (TypeId × Nat))) (xs ys : List α) (i : Int) (r : List α) (h : insL 40 xs i ys = some r) :
  FunM Try.prog 32 [.ref 1000 0 xs.length, .d (.lit (.int .i64 i)), .ref 1001 0 ys.length] [(1000, some (.nest 72 2 sh (xs.map c) [])), (1001, some (.nest 72 2 sh (ys.map c) []))] [] (.ref 1000 0 r.length) [(1000, .nest 72 2 sh (r.map c) [])] := by
 unfold insL at h
 split at h
 case isFalse => cases h
 rename_i hh
 obtain ⟨h1, h2, h3⟩ := hh
 split at h
 ·rename_i y
  injection h with h
  subst h
  obtain ⟨k, rfl⟩ : ∃ k : Nat, i = k := ⟨i.toNat, by omega⟩
  have hlen : (xs.take k ++ y :: xs.drop k).length = xs.length + 1 := by simp; omega
  simp only [Int.toNat_natCast, hlen]
  rcases Nat.lt_or_ge k xs.length with hk | hk
  ·have := ins_midN sh (xs.map c) (c y) k (by simpa using hk) (by simpa using h3)
   simpa [List.map_take, List.map_drop] using this
  ·obtain rfl : k = xs.length := by omega
   have := ins_endN sh (xs.map c) (c y) (by simpa using h3)
   simpa using this
 ·cases h
end Go.Proofs.Ytifcmomjjkbboac
