/- The archive as functional programs: order of keys, the search. The archive as functional programs: states as sorted lists and as maps; one change. The archive as functional programs: StateAt, of the archive and of the reference. The archive as functional programs: sorted records, equal records, the latest time. The archive as functional programs: the records of a full backup. The archive as functional programs: slices.DeleteFunc. The archive as functional programs: what an archive and the reference keep; a full backup. The archive as functional programs: how many records there are, how many are new. The archive as functional programs: Prune. BackupMatchesReference as a functional program is true. The law's arguments as the functional program takes them. -/
import Derived.Test.YtfdhaigfonolpaaBk12
section
namespace Go.Proofs.Ytfdhaigfonolpaa
open Go.Ab Go.Rp

theorem iter_post {τ ρ : Type} (step : τ → Option (τ ⊕ ρ)) (μ : τ → Nat) (Inv : τ → Prop) (Post : ρ → Prop)
  (h : ∀ s,Inv s → (∃ s',step s = some (.inl s') ∧ Inv s' ∧ μ s' < μ s) ∨ ∃ r,step s = some (.inr r) ∧ Post r) :
  ∀ (n : Nat) (s : τ),Inv s → μ s < n → ∃ r,iterN step n s = some r ∧ Post r := by
 intro n
 induction n with
 | zero => intro s _ h;omega
 | succ n ih =>
  intro s hi hm
  rcases h s hi with ⟨s',h1,h2,h3⟩ | ⟨r,h1,h2⟩
  ·obtain ⟨r,h4,h5⟩ := ih s' h2 (by omega)
   exact ⟨r,by rw [iterN,h1];exact h4,h5⟩
  ·exact ⟨r,by rw [iterN,h1],h2⟩
theorem loop_idx {σ τ ρ : Type} (len : Nat) (mkS : σ → Int → τ) (step : τ → Option (τ ⊕ ρ)) (Inv : Nat → σ → Prop) (Post : ρ → Prop)
  (hs : ∀ k s,k < len → Inv k s → (∃ s',step (mkS s k) = some (.inl (mkS s' ((k : Int) + 1))) ∧ Inv (k + 1) s') ∨ ∃ r,step (mkS s k) = some (.inr r) ∧ Post r)
  (he : ∀ s,Inv len s → ∃ r,step (mkS s len) = some (.inr r) ∧ Post r) (s0 : σ) (h0 : Inv 0 s0) {n : Nat} (hn : len < n) : ∃ r,iterN step n (mkS s0 0) = some r ∧ Post r := by
 have key : ∀ (m k : Nat) (s : σ),k ≤ len → len - k < m → Inv k s → ∃ r,iterN step m (mkS s k) = some r ∧ Post r := by
  intro m
  induction m with
  | zero => intro k s _ h;omega
  | succ m ih =>
   intro k s hk hm hi
   rw [iterN_succ]
   by_cases hlt : k < len
   ·rcases hs k s hlt hi with ⟨s',h1,h2⟩ | ⟨r,h1,h2⟩
    ·rw [h1]
     exact ih (k + 1) s' (by omega) (by omega) h2
    ·rw [h1];exact ⟨r,rfl,h2⟩
   ·obtain rfl : k = len := by omega
    obtain ⟨r,h1,h2⟩ := he s hi
    rw [h1]
    exact ⟨r,rfl,h2⟩
 exact key n 0 s0 (Nat.zero_le _) (by omega) h0
theorem get_of {α : Type} {l : List α} {k : Nat} (h : k < l.length) : ∃ a,l[k]? = some a := ⟨l[k],List.getElem?_eq_getElem h⟩
theorem bind_ex {α β : Type} {d : Option α} {k : α → Option β} {P : α → Prop} {Q : β → Prop} (h : ∃ s,d = some s ∧ P s) (h2 : ∀ s,P s → ∃ r,k s = some r ∧ Q r) : ∃ r,d.bind k = some r ∧ Q r := by
 obtain ⟨s,rfl,hp⟩ := h
 exact h2 s hp
theorem bindO_eq {β ρ : Type} {d : Option (Out β ρ)} {k : β → Option ρ} {P : Out β ρ → Prop} {r : ρ} (h : ∃ s,d = some s ∧ P s) (h1 : ∀ x,P (.ret x) → x = r) (h2 : ∀ b,P (.go b) → k b = some r) : bindO d k = some r := by
 obtain ⟨s,rfl,hp⟩ := h
 cases s with
 | go b => exact h2 b hp
 | ret x => show some x = some r;rw [h1 x hp]

/-! ### the order of keys -/
theorem cmpL : ∀ (x y : List UInt8),(Lib.compareBytes x y < 0 ↔ x < y) ∧ (Lib.compareBytes x y = 0 ↔ x = y)
 | [],[] => by simp [Lib.compareBytes]
 | [],_ :: _ => by simp [Lib.compareBytes]
 | _ :: _,[] => by simp [Lib.compareBytes]
 | a :: x,b :: y => by
  obtain ⟨h1,h2⟩ := cmpL x y
  unfold Lib.compareBytes
  rw [List.cons_lt_cons_iff]
  by_cases hab : a < b
  ·rw [if_pos hab]
   refine ⟨by simp [hab],⟨fun h => (by cases h),fun h => ?_⟩⟩
   injection h with h3 h4
   subst h3
   exact absurd hab (UInt8.lt_irrefl a)
  ·rw [if_neg hab]
   by_cases hba : b < a
   ·rw [if_pos hba]
    have hne : a ≠ b := fun e => UInt8.lt_irrefl a (by rw [e] at hba ⊢;exact hba)
    refine ⟨⟨fun h => (by omega),fun h => ?_⟩,⟨fun h => (by cases h),fun h => ?_⟩⟩
    ·rcases h with h | ⟨h,_⟩
     ·exact absurd h hab
     ·exact absurd h hne
    ·injection h with h3 h4
     exact absurd h3 hne
   ·rw [if_neg hba]
    have he : a = b := by
     apply UInt8.toNat_inj.1
     have a1 : ¬ a.toNat < b.toNat := fun h => hab (UInt8.lt_iff_toNat_lt.2 h)
     have a2 : ¬ b.toNat < a.toNat := fun h => hba (UInt8.lt_iff_toNat_lt.2 h)
     omega
    subst he
    refine ⟨⟨fun h => .inr ⟨rfl,h1.1 h⟩,fun h => h1.2 ?_⟩,⟨fun h => (by rw [h2.1 h]),fun h => h2.2 ?_⟩⟩
    ·rcases h with h | ⟨_,h⟩
     ·exact absurd h hab
     ·exact h
    ·injection h
abbrev bs (s : ByteArray) : List UInt8 := s.data.toList
theorem bs_inj {a b : ByteArray} (h : bs a = bs b) : a = b := by
 cases a;cases b
 simp only [bs] at h
 congr 1
 exact Array.toList_inj.1 h
def klt (a b : ByteArray) : Prop := bs a < bs b
theorem klt_irrefl (a : ByteArray) : ¬ klt a a := List.lt_irrefl _
theorem klt_trans {a b c : ByteArray} (h : klt a b) (k : klt b c) : klt a c := List.lt_trans h k
theorem klt_ne {a b : ByteArray} (h : klt a b) : a ≠ b := fun e => klt_irrefl b (e ▸ h)
theorem klt_tri {a b : ByteArray} (h : ¬ klt a b) : a = b ∨ klt b a := by
 have h1 : bs b ≤ bs a := List.not_lt.1 h
 by_cases h2 : bs a ≤ bs b
 ·exact .inl (bs_inj (List.le_antisymm h2 h1))
 ·exact .inr (List.not_le.1 h2)
theorem d36_ok (N : Nat) (e : S76) (k : ByteArray) : ∃ c,d36 N e k = some c ∧ (c < 0 ↔ klt e.Key k) ∧ (c = 0 ↔ e.Key = k) :=
 ⟨_,rfl,(cmpL _ _).1,(cmpL _ _).2.trans ⟨bs_inj,fun h => by rw [h]⟩⟩

/-! ### the search -/
def Srt (es : List S76) : Prop := es.Pairwise fun x y => klt x.Key y.Key
theorem Srt.get {es : List S76} (h : Srt es) {i j : Nat} {x y : S76} (hij : i < j) (hx : es[i]? = some x) (hy : es[j]? = some y) : klt x.Key y.Key := by
 obtain ⟨h1,rfl⟩ := List.getElem?_eq_some_iff.1 hx
 obtain ⟨h2,rfl⟩ := List.getElem?_eq_some_iff.1 hy
 exact List.pairwise_iff_getElem.1 h i j h1 h2 hij
theorem mid_ok {i j : Nat} (h : i < j) (hj : j ≤ 1000) : chkI ((i : Int) + (j : Int)) = some ((i + j : Nat) : Int) ∧ shrI (IntKind.u64.wrap ((i + j : Nat) : Int)) 1 = (((i + j) / 2 : Nat) : Int) := by
 refine ⟨by rw [chkI_of (by omega) (by omega)];congr 1,?_⟩
 have : IntKind.u64.wrap ((i + j : Nat) : Int) = ((i + j : Nat) : Int) := by
  simp only [IntKind.wrap,IntKind.signed,IntKind.bits]
  simp
  omega
 rw [this]
 unfold shrI
 rw [Int.fdiv_eq_ediv_of_nonneg _ (by decide)]
 simp
theorem d35_ok {N : Nat} (hN : bigN N) {es : List S76} (hs : Srt es) (hl : es.length ≤ 1000) (k : ByteArray) (p2 : S76 → ByteArray → Option Int) (hp : ∀ e,∃ c,p2 e k = some c ∧ (c < 0 ↔ klt e.Key k) ∧ (c = 0 ↔ e.Key = k)) :
  ∃ i : Nat,i ≤ es.length ∧ (∀ x e,x < i → es[x]? = some e → klt e.Key k) ∧ (∀ x e,i ≤ x → es[x]? = some e → ¬ klt e.Key k) ∧
   d35 N es k p2 = some ((i : Int),match es[i]? with | some e => decide (e.Key = k) | none => false) := by
 have hN : 9223372036854775808 ≤ N := hN
 unfold d35
 have loop := iter_post (fun ((v11,v12) : (Int × Int)) =>
   if v11 < v12 then (
    (chkI (v11 + v12)).bind fun v37 =>
    letv (IntKind.u64.wrap (v37)) fun v38 =>
    letv (shrI v38 1) fun v39 =>
    (chkI (v39)).bind fun v40 =>
    (idx es v40).bind fun x41 =>
    (p2 x41 k).bind fun r43 =>
    if r43 < 0 then (
     (chkI (v40 + 1)).bind fun v45 =>
     some (Sum.inl (v45,v12))
    ) else
    some (Sum.inl (v11,v40))
   ) else
   some (Sum.inr v11)) (fun s => (s.2 - s.1).toNat)
   (fun s => ∃ i j : Nat,s = ((i : Int),(j : Int)) ∧ i ≤ j ∧ j ≤ es.length ∧ (∀ x e,x < i → es[x]? = some e → klt e.Key k) ∧ (∀ x e,j ≤ x → es[x]? = some e → ¬ klt e.Key k))
   (fun r => ∃ i : Nat,r = (i : Int) ∧ i ≤ es.length ∧ (∀ x e,x < i → es[x]? = some e → klt e.Key k) ∧ (∀ x e,i ≤ x → es[x]? = some e → ¬ klt e.Key k)) (by
  rintro s ⟨i,j,rfl,h1,h2,h3,h4⟩
  by_cases hij : i < j
  ·obtain ⟨m1,m2⟩ := mid_ok hij (by omega)
   obtain ⟨e,he⟩ := get_of (l := es) (k := (i + j) / 2) (by omega)
   obtain ⟨c,hc,hc1,hc2⟩ := hp e
   refine .inl ?_
   dsimp only
   rw [if_pos (by omega),m1,Option.bind_some,letv_eq,letv_eq,m2,chkI_of (by omega) (by omega),Option.bind_some,idx_nat he,Option.bind_some,hc,Option.bind_some]
   by_cases hcl : c < 0
   ·rw [if_pos hcl,chkI_of (by omega) (by omega),Option.bind_some]
    refine ⟨_,rfl,⟨(i + j) / 2 + 1,j,rfl,by omega,h2,fun x e' hx hx2 => ?_,h4⟩,by omega⟩
    by_cases hxe : x = (i + j) / 2
    ·rw [hxe,he] at hx2
     injection hx2 with hx2
     rw [← hx2];exact hc1.1 hcl
    ·exact klt_trans (hs.get (by omega) hx2 he) (hc1.1 hcl)
   ·rw [if_neg hcl]
    refine ⟨_,rfl,⟨i,(i + j) / 2,rfl,by omega,by omega,h3,fun x e' hx hx2 hk => ?_⟩,by omega⟩
    by_cases hxe : x = (i + j) / 2
    ·rw [hxe,he] at hx2
     injection hx2 with hx2
     rw [← hx2] at hk
     exact hcl (hc1.2 hk)
    ·exact hcl (hc1.2 (klt_trans (hs.get (by omega) he hx2) hk))
  ·obtain rfl : i = j := by omega
   exact .inr ⟨_,if_neg (by omega),i,rfl,h2,h3,h4⟩) N (0,(es.length : Int)) ⟨0,es.length,rfl,Nat.zero_le _,Nat.le_refl _,fun x e hx => by omega,fun x e hx hx2 => by rw [List.getElem?_eq_none hx] at hx2;cases hx2⟩ (by simp;omega)
 obtain ⟨r,h1,i,rfl,h2,h3,h4⟩ := loop
 refine ⟨i,h2,h3,h4,?_⟩
 rw [show iterN _ N _ = _ from h1,Option.bind_some]
 by_cases hi : i < es.length
 ·obtain ⟨e,he⟩ := get_of hi
  obtain ⟨c,hc,hc1,hc2⟩ := hp e
  rw [if_pos (by omega),idx_nat he,Option.bind_some,hc,Option.bind_some,Option.bind_some,he]
  have : (c == 0) = decide (e.Key = k) := by
   rw [Bool.eq_iff_iff,decide_eq_true_eq,← hc2];simp
  rw [this]
 ·rw [if_neg (by omega),Option.bind_some,List.getElem?_eq_none (by omega)]

/-- what the search finds -/
def Found (es : List S76) (k : ByteArray) (A : List S76) (e : S76) (B : List S76) : Prop := es = A ++ e :: B ∧ e.Key = k ∧ (∀ a ∈ A,klt a.Key k) ∧ ∀ b ∈ B,klt k b.Key
def Miss (es : List S76) (k : ByteArray) (A B : List S76) : Prop := es = A ++ B ∧ (∀ a ∈ A,klt a.Key k) ∧ ∀ b ∈ B,klt k b.Key
theorem find_ok {N : Nat} (hN : bigN N) {es : List S76} (hs : Srt es) (hl : es.length ≤ 1000) (k : ByteArray) :
  (∃ A e B,Found es k A e B ∧ d35 N es k (fun b0 b1 => d36 N b0 b1) = some ((A.length : Int),true)) ∨ ∃ A B,Miss es k A B ∧ d35 N es k (fun b0 b1 => d36 N b0 b1) = some ((A.length : Int),false) := by
 obtain ⟨i,h1,h2,h3,h4⟩ := d35_ok hN hs hl k (fun b0 b1 => d36 N b0 b1) (fun e => d36_ok N e k)
 have hA : ∀ a ∈ es.take i,klt a.Key k := fun a ha => by
  obtain ⟨x,hx,rfl⟩ := List.mem_take_iff_getElem.1 ha
  exact h2 x _ (by omega) (List.getElem?_eq_getElem (by omega))
 have hlen : (es.take i).length = i := by rw [List.length_take];omega
 have hd : ∀ b,d35 N es k (fun b0 b1 => d36 N b0 b1) = some ((i : Int),b) → d35 N es k (fun b0 b1 => d36 N b0 b1) = some (((es.take i).length : Int),b) := fun b h => by rw [h,hlen]
 have htail : ∀ y b,i < y → es[y]? = some b → ∀ e,es[i]? = some e → klt e.Key b.Key := fun y b hy hb e he => hs.get hy he hb
 by_cases hi : i < es.length
 ·obtain ⟨e,he⟩ := get_of hi
  have hsp : es = es.take i ++ e :: es.drop (i + 1) := by
   obtain ⟨h5,h6⟩ := List.getElem?_eq_some_iff.1 he
   rw [← h6,← List.drop_eq_getElem_cons hi,List.take_append_drop]
  have hB : ∀ b ∈ es.drop (i + 1),klt e.Key b.Key := fun b hb => by
   obtain ⟨y,hy,rfl⟩ := List.mem_drop_iff_getElem.1 hb
   exact htail (i + 1 + y) _ (by omega) (List.getElem?_eq_getElem (by omega)) e he
  rw [he] at h4
  by_cases hk : e.Key = k
  ·refine .inl ⟨es.take i,e,es.drop (i + 1),⟨hsp,hk,hA,fun b hb => hk ▸ hB b hb⟩,hd _ ?_⟩
   rw [h4];simp [hk]
  ·have hke : klt k e.Key := (klt_tri (h3 i e (Nat.le_refl _) he)).resolve_left hk
   refine .inr ⟨es.take i,es.drop i,⟨(List.take_append_drop i es).symm,hA,fun b hb => ?_⟩,hd _ ?_⟩
   ·rw [List.drop_eq_getElem_cons hi] at hb
    rcases List.mem_cons.1 hb with rfl | hb
    ·obtain ⟨h5,h6⟩ := List.getElem?_eq_some_iff.1 he
     rw [h6];exact hke
    ·exact klt_trans hke (hB b hb)
   ·rw [h4];simp [hk]
 ·refine .inr ⟨es.take i,es.drop i,⟨(List.take_append_drop i es).symm,hA,fun b hb => ?_⟩,hd _ ?_⟩
  ·rw [List.drop_eq_nil_of_le (by omega)] at hb;cases hb
  ·rw [h4,List.getElem?_eq_none (by omega)]

end Go.Proofs.Ytfdhaigfonolpaa
end
section
namespace Go.Proofs.Ytfdhaigfonolpaa
open Go.Ab Go.Rp

abbrev PK : Type := ByteArray → List S71 → Prop
abbrev KV : Type := ByteArray × List S71
def RepL (st : List S76) (P : PK) : Prop := Srt st ∧ ∀ e : S76,e ∈ st ↔ P e.Key e.Row
def RepM (m : List KV) (P : PK) : Prop := (m.map Prod.fst).Nodup ∧ ∀ k r,(k,r) ∈ m ↔ P k r
def upd (P : PK) (key : ByteArray) (row : List S71) : PK := fun k r => (k = key ∧ row ≠ [] ∧ r = row) ∨ (k ≠ key ∧ P k r)
def small (e : S76) : Prop := e.Key.size ≤ 24 ∧ e.Row.length ≤ 6

theorem Srt.ext : ∀ {l1 l2 : List S76},Srt l1 → Srt l2 → (∀ e,e ∈ l1 ↔ e ∈ l2) → l1 = l2
 | [],[],_,_,_ => rfl
 | [],b :: l2,_,_,h => by have := (h b).2 (by simp);simp at this
 | a :: l1,[],_,_,h => by have := (h a).1 (by simp);simp at this
 | a :: l1,b :: l2,h1,h2,h => by
  have g1 := List.pairwise_cons.1 h1
  have g2 := List.pairwise_cons.1 h2
  have hab : a = b := by
   rcases List.mem_cons.1 ((h a).1 (by simp)) with e | e
   ·exact e
   ·rcases List.mem_cons.1 ((h b).2 (by simp)) with e2 | e2
    ·exact e2.symm
    ·exact absurd (klt_trans (g2.1 a e) (g1.1 b e2)) (klt_irrefl _)
  subst hab
  congr 1
  refine Srt.ext g1.2 g2.2 fun e => ⟨fun he => ?_,fun he => ?_⟩
  ·rcases List.mem_cons.1 ((h e).1 (List.mem_cons_of_mem _ he)) with rfl | h3
   ·exact absurd (g1.1 _ he) (klt_irrefl _)
   ·exact h3
  ·rcases List.mem_cons.1 ((h e).2 (List.mem_cons_of_mem _ he)) with rfl | h3
   ·exact absurd (g2.1 _ he) (klt_irrefl _)
   ·exact h3
theorem rep_len {st : List S76} {m : List KV} {P : PK} (h1 : RepL st P) (h2 : RepM m P) : (st.map fun e => (e.Key,e.Row)).Perm m := by
 refine (List.perm_ext_iff_of_nodup ?_ ?_).2 fun x => ?_
 ·refine List.pairwise_map.2 ?_
  exact (show List.Pairwise (fun x y : S76 => klt x.Key y.Key) st from h1.1).imp fun hk e => klt_ne hk (congrArg Prod.fst e)
 ·have := List.pairwise_map.1 h2.1
  exact this.imp fun hk e => hk (congrArg Prod.fst e)
 ·obtain ⟨k,r⟩ := x
  rw [h2.2 k r,List.mem_map]
  constructor
  ·rintro ⟨e,he,h⟩
   injection h with e1 e2
   rw [← e1,← e2];exact (h1.2 e).1 he
  ·intro h
   exact ⟨⟨k,r⟩,(h1.2 ⟨k,r⟩).2 h,rfl⟩

/-! ### one change -/
def stepB (N : Nat) (l : List S76) (key : ByteArray) (row : List S71) : Option (List S76) :=
 (d35 N l key (fun b0 b1 => d36 N b0 b1 )).bind fun r243 =>
 Option.bind (α := (Bool × Bool)) (
  if r243.2 = true then (
   some (true,((row.length : Int) == 0))
  ) else
  some (false,false)
 ) fun ((v245,v246) : (Bool × Bool)) =>
 if v246 = true then (
  (chkI (r243.1 + 1)).bind fun v249 =>
  (d38 N l r243.1 v249).bind fun l250 =>
  some l250
 ) else
 if v245 = true then (
  (d24 N row).bind fun r252 =>
  (idx l r243.1).bind fun x253 =>
  letv (setI l r243.1 (S76.mk x253.Key r252)) fun l255 =>
  some l255
 ) else
 if (row.length : Int) > 0 then (
  (d24 N row).bind fun r257 =>
  (d39 N l r243.1 ([(S76.mk key r257)] : List S76)).bind fun l258 =>
  some l258
 ) else
 some l
theorem d24_ok {N : Nat} {r : List S71} (h : r.length ≤ 6) : d24 N r = some r := if_pos (by show r.length * 32 ≤ 140737488355328;omega)
theorem srt_mid {A B : List S76} {e : S76} : Srt (A ++ e :: B) ↔ Srt (A ++ B) ∧ (∀ a ∈ A,klt a.Key e.Key) ∧ ∀ b ∈ B,klt e.Key b.Key := by
 unfold Srt
 rw [List.pairwise_append,List.pairwise_append,List.pairwise_cons]
 constructor
 ·rintro ⟨h1,⟨h2,h3⟩,h4⟩
  exact ⟨⟨h1,h3,fun a ha b hb => h4 a ha b (List.mem_cons_of_mem _ hb)⟩,fun a ha => h4 a ha e (by simp),h2⟩
 ·rintro ⟨⟨h1,h3,h4⟩,h5,h6⟩
  refine ⟨h1,⟨h6,h3⟩,fun a ha b hb => ?_⟩
  rcases List.mem_cons.1 hb with rfl | hb
  ·exact h5 a ha
  ·exact h4 a ha b hb
theorem stepB_ok {N : Nat} (hN : bigN N) {st : List S76} {P : PK} (h : RepL st P) (hl : st.length ≤ 999) (hs : ∀ e ∈ st,small e) {key : ByteArray} {row : List S71} (hk : key.size ≤ 24) (hr : row.length ≤ 6) :
  ∃ st',stepB N st key row = some st' ∧ RepL st' (upd P key row) ∧ st'.length ≤ st.length + 1 ∧ ∀ e ∈ st',small e := by
 obtain ⟨hsrt,hmem⟩ := h
 unfold stepB
 rcases find_ok hN hsrt (by omega) key with ⟨A,e,B,⟨rfl,hke,hA,hB⟩,hf⟩ | ⟨A,B,⟨rfl,hA,hB⟩,hf⟩
 ·rw [hf,Option.bind_some]
  have hAB := (srt_mid.1 hsrt).1
  by_cases h0 : row = []
  ·subst h0
   rw [if_pos rfl,Option.bind_some]
   dsimp only
   rw [if_pos (by simp),chkI_of (by omega) (by simp at hl;omega),Option.bind_some]
   have hd : d38 N (A ++ e :: B) (A.length : Int) ((A.length : Int) + 1) = some (A ++ B) := by
    unfold d38 delL
    rw [if_pos ⟨by omega,by omega,by simp;omega⟩]
    have : ((A.length : Int) + 1).toNat = A.length + 1 := by omega
    rw [this,Int.toNat_natCast]
    simp [List.drop_append]
   rw [hd,Option.bind_some]
   refine ⟨_,rfl,⟨hAB,fun x => ?_⟩,by simp;omega,fun x hx => hs x (by rcases List.mem_append.1 hx with h | h <;> simp [h])⟩
   have := hmem x
   constructor
   ·intro hx
    refine .inr ⟨?_,this.1 (by rcases List.mem_append.1 hx with h | h <;> simp [h])⟩
    rcases List.mem_append.1 hx with h | h
    ·exact klt_ne (hA x h)
    ·exact (klt_ne (hB x h)).symm
   ·rintro (⟨_,h,_⟩ | ⟨hne,hp⟩)
    ·exact absurd rfl h
    ·rcases List.mem_append.1 (this.2 hp) with h | h
     ·simp [h]
     ·rcases List.mem_cons.1 h with rfl | h
      ·exact absurd hke hne
      ·simp [h]
  ·rw [if_pos rfl,Option.bind_some]
   dsimp only
   have hrl : row.length ≠ 0 := fun h => h0 (List.eq_nil_of_length_eq_zero h)
   rw [if_neg (by simp;omega),if_pos rfl,d24_ok hr,Option.bind_some,idx_nat (x := e) (by simp),Option.bind_some,letv_eq]
   have hset : setI (A ++ e :: B) (A.length : Int) (S76.mk e.Key row) = A ++ (S76.mk e.Key row) :: B := by
    unfold setI
    rw [Int.toNat_natCast]
    simp
   rw [hset]
   refine ⟨_,rfl,⟨srt_mid.2 ⟨hAB,fun a ha => ?_,fun b hb => ?_⟩,fun x => ?_⟩,by simp,fun x hx => ?_⟩
   ·show klt a.Key e.Key;rw [hke];exact hA a ha
   ·show klt e.Key b.Key;rw [hke];exact hB b hb
   ·have := hmem x
    constructor
    ·intro hx
     rcases List.mem_append.1 hx with h | h
     ·exact .inr ⟨klt_ne (hA x h),this.1 (by simp [h])⟩
     ·rcases List.mem_cons.1 h with rfl | h
      ·exact .inl ⟨hke,h0,rfl⟩
      ·exact .inr ⟨(klt_ne (hB x h)).symm,this.1 (by simp [h])⟩
    ·rintro (⟨h1,_,h2⟩ | ⟨hne,hp⟩)
     ·have : x = S76.mk e.Key row := by cases x;simp only at h1 h2;rw [h1,h2,hke]
      rw [this];simp
     ·rcases List.mem_append.1 (this.2 hp) with h | h
      ·simp [h]
      ·rcases List.mem_cons.1 h with rfl | h
       ·exact absurd hke hne
       ·simp [h]
   ·rcases List.mem_append.1 hx with h | h
    ·exact hs x (by simp [h])
    ·rcases List.mem_cons.1 h with rfl | h
     ·exact ⟨by show e.Key.size ≤ 24;rw [hke];exact hk,hr⟩
     ·exact hs x (by simp [h])
 ·rw [hf,Option.bind_some,if_neg (by simp),Option.bind_some]
  dsimp only
  rw [if_neg (by simp),if_neg (by simp)]
  by_cases h0 : row = []
  ·subst h0
   rw [if_neg (by simp)]
   refine ⟨_,rfl,⟨hsrt,fun x => ?_⟩,by omega,hs⟩
   rw [hmem x]
   constructor
   ·intro hp
    refine .inr ⟨?_,hp⟩
    rcases List.mem_append.1 ((hmem x).2 hp) with h | h
    ·exact klt_ne (hA x h)
    ·exact (klt_ne (hB x h)).symm
   ·rintro (⟨_,h,_⟩ | ⟨_,hp⟩)
    ·exact absurd rfl h
    ·exact hp
  ·have hrl : row.length ≠ 0 := fun h => h0 (List.eq_nil_of_length_eq_zero h)
   rw [if_pos (by omega),d24_ok hr,Option.bind_some]
   have hi : d39 N (A ++ B) (A.length : Int) ([(S76.mk key row)] : List S76) = some (A ++ (S76.mk key row) :: B) := by
    unfold d39 insL
    rw [if_pos ⟨by omega,by simp;omega,by show _ ≤ 140737488355328;omega⟩]
    simp
   rw [hi,Option.bind_some]
   refine ⟨_,rfl,⟨srt_mid.2 ⟨hsrt,hA,hB⟩,fun x => ?_⟩,by simp;omega,fun x hx => ?_⟩
   ·have := hmem x
    constructor
    ·intro hx
     rcases List.mem_append.1 hx with h | h
     ·exact .inr ⟨klt_ne (hA x h),this.1 (by simp [h])⟩
     ·rcases List.mem_cons.1 h with rfl | h
      ·exact .inl ⟨rfl,h0,rfl⟩
      ·exact .inr ⟨(klt_ne (hB x h)).symm,this.1 (by simp [h])⟩
    ·rintro (⟨h1,_,h2⟩ | ⟨hne,hp⟩)
     ·have : x = S76.mk key row := by cases x;simp only at h1 h2;rw [h1,h2]
      rw [this];simp
     ·rcases List.mem_append.1 (this.2 hp) with h | h
      ·simp [h]
      ·simp [h]
   ·rcases List.mem_append.1 hx with h | h
    ·exact hs x (by simp [h])
    ·rcases List.mem_cons.1 h with rfl | h
     ·exact ⟨hk,hr⟩
     ·exact hs x (by simp [h])

/-! ### the same on maps -/
theorem mget_mem {m : List KV} {k : ByteArray} : (mget m k).isSome = true ↔ k ∈ m.map Prod.fst := by
 unfold mget
 rw [Option.isSome_map,List.find?_isSome,List.mem_map]
 constructor
 ·rintro ⟨x,h1,h2⟩;exact ⟨x,h1,of_decide_eq_true h2⟩
 ·rintro ⟨x,h1,h2⟩;exact ⟨x,h1,decide_eq_true h2⟩
theorem mput_new {m : List KV} {k : ByteArray} {v : List S71} (h : k ∉ m.map Prod.fst) : mput m k v = m ++ [(k,v)] := by
 unfold mput
 rw [if_neg fun h2 => h (mget_mem.1 h2)]
theorem mput_old {m : List KV} {k : ByteArray} {v : List S71} (h : k ∈ m.map Prod.fst) : mput m k v = m.map (fun p => if p.1 = k then (k,v) else p) := by
 unfold mput
 rw [if_pos (mget_mem.2 h)]
theorem mput_keys {m : List KV} {k : ByteArray} {v : List S71} (h : (m.map Prod.fst).Nodup) : ((mput m k v).map Prod.fst).Nodup := by
 by_cases hk : k ∈ m.map Prod.fst
 ·rw [mput_old hk,List.map_map]
  have : (m.map ((Prod.fst : KV → ByteArray) ∘ fun p => if p.1 = k then (k,v) else p)) = m.map Prod.fst := by
   refine List.map_congr_left fun p _ => ?_
   show (if p.1 = k then (k,v) else p).1 = p.1
   by_cases e : p.1 = k
   ·rw [if_pos e,e]
   ·rw [if_neg e]
  rw [this];exact h
 ·rw [mput_new hk,List.map_append]
  refine List.nodup_append.2 ⟨h,by simp,fun a ha b hb => ?_⟩
  simp at hb
  rw [hb]
  exact fun e => hk (e ▸ ha)
theorem mem_mput {m : List KV} {k : ByteArray} {v : List S71} (k' : ByteArray) (r : List S71) : (k',r) ∈ mput m k v ↔ (k' = k ∧ r = v) ∨ (k' ≠ k ∧ (k',r) ∈ m) := by
 by_cases hk : k ∈ m.map Prod.fst
 ·rw [mput_old hk,List.mem_map]
  constructor
  ·rintro ⟨p,hp,h⟩
   by_cases e : p.1 = k
   ·rw [if_pos e] at h
    injection h with h1 h2
    exact .inl ⟨h1.symm,h2.symm⟩
   ·rw [if_neg e] at h
    subst h
    exact .inr ⟨e,hp⟩
  ·rintro (⟨h1,h2⟩ | ⟨h1,h2⟩)
   ·obtain ⟨p,hp,hpk⟩ := List.mem_map.1 hk
    exact ⟨p,hp,by rw [if_pos hpk,h1,h2]⟩
   ·exact ⟨(k',r),h2,by rw [if_neg h1]⟩
 ·rw [mput_new hk,List.mem_append,List.mem_singleton]
  constructor
  ·rintro (h | h)
   ·refine .inr ⟨fun e => hk (e ▸ List.mem_map_of_mem h),h⟩
   ·injection h with h1 h2
    exact .inl ⟨h1,h2⟩
  ·rintro (⟨h1,h2⟩ | ⟨_,h2⟩)
   ·rw [h1,h2];exact .inr rfl
   ·exact .inl h2
theorem mem_mdel {m : List KV} {k : ByteArray} (k' : ByteArray) (r : List S71) : (k',r) ∈ mdel m k ↔ k' ≠ k ∧ (k',r) ∈ m := by
 unfold mdel
 rw [List.mem_filter]
 simp [and_comm]
theorem mdel_keys {m : List KV} {k : ByteArray} (h : (m.map Prod.fst).Nodup) : ((mdel m k).map Prod.fst).Nodup := by
 unfold mdel
 exact h.sublist (List.filter_sublist.map _)
theorem upd_put {m : List KV} {P : PK} (h : RepM m P) (k : ByteArray) (v : List S71) (hv : v ≠ []) : RepM (mput m k v) (upd P k v) := by
 refine ⟨mput_keys h.1,fun k' r => ?_⟩
 rw [mem_mput,h.2]
 unfold upd
 simp [hv]
theorem upd_del {m : List KV} {P : PK} (h : RepM m P) (k : ByteArray) : RepM (mdel (mput m k []) k) (upd P k []) := by
 refine ⟨mdel_keys (mput_keys h.1),fun k' r => ?_⟩
 rw [mem_mdel,mem_mput,h.2]
 unfold upd
 constructor
 ·rintro ⟨h1,h2⟩
  rcases h2 with h2 | h2
  ·exact absurd h2.1 h1
  ·exact .inr h2
 ·rintro (⟨_,h,_⟩ | h)
  ·exact absurd rfl h
  ·exact ⟨h.1,.inr h⟩
theorem copy_all {ρ : Type} : ∀ (l m : List KV),((m ++ l).map Prod.fst).Nodup → rangeL (α := KV) (β := List KV) (ρ := ρ) (fun x m40 => some (.go (mput m40 x.1 x.2))) l m = some (.go (m ++ l))
 | [],m,_ => by rw [List.append_nil];rfl
 | x :: l,m,h => by
  have hx : x.1 ∉ m.map Prod.fst := by
   intro hm
   rw [List.map_append,List.map_cons] at h
   exact (List.nodup_append.1 h).2.2 _ hm _ (by simp) rfl
  rw [rangeL]
  show rangeL _ l (mput m x.1 x.2) = _
  rw [mput_new hx]
  have e : m ++ [(x.1,x.2)] ++ l = m ++ x :: l := by simp
  rw [copy_all l (m ++ [(x.1,x.2)]) (by rw [e];exact h),e]
end Go.Proofs.Ytfdhaigfonolpaa
end
section
namespace Go.Proofs.Ytfdhaigfonolpaa
open Go.Ab Go.Rp

def All2 {α β : Type} (R : α → β → Prop) : List α → List β → Prop
 | [],[] => True
 | a :: l,b :: m => R a b ∧ All2 R l m
 | _,_ => False
theorem All2.len {α β : Type} {R : α → β → Prop} : ∀ {l : List α} {m : List β},All2 R l m → l.length = m.length
 | [],[],_ => rfl
 | _ :: l,_ :: m,h => by simp [All2.len h.2]
 | [],_ :: _,h => h.elim
 | _ :: _,[],h => h.elim
theorem All2.get {α β : Type} {R : α → β → Prop} : ∀ {l : List α} {m : List β},All2 R l m → ∀ (k : Nat) (a : α),l[k]? = some a → ∃ b,m[k]? = some b ∧ R a b
 | [],[],_,k,a,h => by simp at h
 | x :: l,y :: m,h,0,a,e => by
  simp at e
  exact ⟨y,by simp,e ▸ h.1⟩
 | x :: l,y :: m,h,k + 1,a,e => by
  obtain ⟨b,h1,h2⟩ := All2.get h.2 k a (by simpa using e)
  exact ⟨b,by simpa using h1,h2⟩
 | [],_ :: _,h,_,_,_ => h.elim
 | _ :: _,[],h,_,_,_ => h.elim
theorem All2.imp {α β : Type} {R S : α → β → Prop} : ∀ {l : List α} {m : List β},All2 R l m → (∀ a ∈ l,∀ b ∈ m,R a b → S a b) → All2 S l m
 | [],[],_,_ => trivial
 | x :: l,y :: m,h,f => ⟨f x (by simp) y (by simp) h.1,All2.imp h.2 fun a ha b hb => f a (List.mem_cons_of_mem _ ha) b (List.mem_cons_of_mem _ hb)⟩
 | [],_ :: _,h,_ => h.elim
 | _ :: _,[],h,_ => h.elim
theorem All2.app {α β : Type} {R : α → β → Prop} {l' : List α} {m' : List β} (h' : All2 R l' m') : ∀ {l : List α} {m : List β},All2 R l m → All2 R (l ++ l') (m ++ m')
 | [],[],_ => h'
 | _x :: _l,_y :: _m,h => ⟨h.1,All2.app h' h.2⟩
 | [],_ :: _,h => h.elim
 | _ :: _,[],h => h.elim
theorem All2.drop {α β : Type} {R : α → β → Prop} : ∀ (n : Nat) {l : List α} {m : List β},All2 R l m → All2 R (l.drop n) (m.drop n)
 | 0,_,_,h => h
 | _n + 1,[],[],_ => trivial
 | n + 1,_ :: _l,_ :: _m,h => All2.drop n h.2
 | _ + 1,[],_ :: _,h => h.elim
 | _ + 1,_ :: _,[],h => h.elim

theorem fold_take {α σ : Type} (f : σ → α → σ) (s0 : σ) {l : List α} {k : Nat} {x : α} (h : l[k]? = some x) : (l.take (k + 1)).foldl f s0 = f ((l.take k).foldl f s0) x := by
 rw [List.take_add_one,h,List.foldl_append];rfl
/-- a loop over the indices that computes a fold -/
theorem loop_fold {α σ τ ρ : Type} (xs : List α) (mkS : σ → Int → τ) (step : τ → Option (τ ⊕ ρ)) (f : σ → α → σ) (fin : σ → ρ) (s0 : σ)
  (h : ∀ (k : Nat) x,xs[k]? = some x → ∀ s,s = (xs.take k).foldl f s0 → step (mkS s k) = some (.inl (mkS (f s x) ((k : Int) + 1)))) (he : ∀ s,s = xs.foldl f s0 → step (mkS s xs.length) = some (.inr (fin s))) {n : Nat} (hn : xs.length < n) :
  iterN step n (mkS s0 0) = some (fin (xs.foldl f s0)) := by
 obtain ⟨r,h1,h2⟩ := loop_idx xs.length mkS step (fun k s => s = (xs.take k).foldl f s0) (fun r => r = fin (xs.foldl f s0)) (fun k s hk hi => by
  obtain ⟨x,hx⟩ := get_of hk
  exact .inl ⟨f s x,h k x hx s hi,by rw [fold_take f s0 hx,hi]⟩) (fun s hs => by
  rw [List.take_length] at hs
  exact ⟨_,he s hs,by rw [hs]⟩) s0 rfl hn
 rw [h1,h2]

/-! ### the reference -/
def toM (c : S73) : S46 := S46.mk c.time c.key c.row
def inT (v t : Int) (c : S46) : Prop := v < c.Time ∧ c.Time ≤ t
instance (v t : Int) (c : S46) : Decidable (inT v t c) := inferInstanceAs (Decidable (_ ∧ _))
def chg (v t : Int) (P : PK) (c : S46) : PK := if inT v t c then upd P c.Key c.Row else P
def baseF (t : Int) (a : Int × List KV) (b : S35) : Int × List KV := if b.Time ≤ t then (b.Time,b.State) else a
def baseM (t : Int) (B : List S35) : Int × List KV := B.foldl (baseF t) (-1,[])
def PM (t : Int) (B : List S35) (C : List S46) : PK := C.foldl (chg (baseM t B).1 t) (fun k r => (k,r) ∈ (baseM t B).2)

theorem bindO_go {β ρ : Type} {b : β} {k : β → Option ρ} : bindO (some (.go b)) k = k b := rfl
theorem copy_ok {l : List KV} (h : (l.map Prod.fst).Nodup) {ρ : Type} : rangeR (ρ := ρ) List.Perm (fun (x39 : ByteArray × (List S71)) => fun (m40 : List (ByteArray × (List S71))) => some (.go (mput m40 x39.1 x39.2))) l ([] : List (ByteArray × (List S71))) = some (.go l) := by
 refine rangeR_of (by simpa using copy_all (ρ := ρ) l [] (by simpa using h)) fun l' hl' => ⟨.go l',by simpa using copy_all (ρ := ρ) l' [] (by simpa using (hl'.map _).nodup_iff.2 h),hl'⟩
theorem base_nodup (t : Int) : ∀ (B : List S35) (a : Int × List KV),(a.2.map Prod.fst).Nodup → (∀ b ∈ B,(b.State.map Prod.fst).Nodup) → ((B.foldl (baseF t) a).2.map Prod.fst).Nodup
 | [],_,h,_ => h
 | b :: B,a,h,hb => by
  refine base_nodup t B _ ?_ fun x hx => hb x (List.mem_cons_of_mem _ hx)
  unfold baseF
  split
  ·exact hb b (by simp)
  ·exact h
theorem d12_ok' {N : Nat} (hN : bigN N) (B : List S35) (C : List S46) (e t : Int) (hB : B.length ≤ 1000) (hC : C.length ≤ 1000) (hs : ∀ b ∈ B,(b.State.map Prod.fst).Nodup) :
  ∃ r,d12 N (S39.mk B C e) t = some r ∧ r.1 = S39.mk B C e ∧ RepM r.2 (PM t B C) := by
 have hN : 9223372036854775808 ≤ N := hN
 unfold d12
 refine bind_ex (P := fun s => s = baseM t B) ⟨_,loop_fold B (fun (s : Int × List KV) k => (s.1,s.2,k)) _ (baseF t) (fun s => s) (-1,[]) ?_ ?_ (n := N) (by omega),rfl⟩ ?_
 ·intro k x hx s _
  have hk : k < B.length := (List.getElem?_eq_some_iff.1 hx).1
  dsimp only
  rw [if_pos (by omega),idx_nat hx,Option.bind_some]
  by_cases ht : x.Time ≤ t
  ·rw [if_pos ht,copy_ok (hs x (List.mem_of_getElem? hx)),bindO_go,chkI_of (by omega) (by omega),Option.bind_some]
   unfold baseF
   rw [if_pos ht]
  ·rw [if_neg ht,chkI_of (by omega) (by omega),Option.bind_some]
   unfold baseF
   rw [if_neg ht]
 ·intro s _
  dsimp only
  rw [if_neg (by omega)]
 rintro s rfl
 have hbn : ((baseM t B).2.map Prod.fst).Nodup := base_nodup t B _ (by simp) hs
 unfold PM
 generalize baseM t B = b at hbn ⊢
 obtain ⟨v,m0⟩ := b
 dsimp only at hbn ⊢
 refine bind_ex (P := fun m => RepM m (C.foldl (chg v t) fun k r => (k,r) ∈ m0)) (loop_idx (σ := List KV) C.length (fun m k => (m,k)) _ (fun k m => RepM m ((C.take k).foldl (chg v t) fun k r => (k,r) ∈ m0)) _ ?_ ?_ m0 ⟨hbn,fun _ _ => Iff.rfl⟩ (by omega)) ?_
 ·intro k m hk hi
  obtain ⟨x,hx⟩ := get_of hk
  dsimp only
  rw [if_pos (by omega),idx_nat hx,Option.bind_some]
  left
  rw [fold_take _ _ hx]
  unfold chg
  by_cases h1 : x.Time > v
  ·rw [if_pos h1,Option.bind_some]
   by_cases h2 : x.Time ≤ t
   ·rw [if_pos (by simp [h2]),if_pos (show inT v t x from ⟨h1,h2⟩)]
    by_cases h3 : x.Row = []
    ·rw [if_pos (by rw [h3];rfl),chkI_of (by omega) (by omega),Option.bind_some]
     refine ⟨_,rfl,?_⟩
     rw [h3]
     exact upd_del hi _
    ·have : x.Row.length ≠ 0 := fun h => h3 (List.eq_nil_of_length_eq_zero h)
     rw [if_neg (by simp;exact h3),chkI_of (by omega) (by omega),Option.bind_some]
     exact ⟨_,rfl,upd_put hi _ _ h3⟩
   ·rw [if_neg (by simp [h2]),chkI_of (by omega) (by omega),Option.bind_some,if_neg (fun h : inT v t x => h2 h.2)]
    exact ⟨_,rfl,hi⟩
  ·rw [if_neg h1,Option.bind_some,if_neg (by simp),chkI_of (by omega) (by omega),Option.bind_some,if_neg (fun h : inT v t x => h1 h.1)]
   exact ⟨_,rfl,hi⟩
 ·intro m hi
  dsimp only
  rw [if_neg (by omega)]
  rw [List.take_length] at hi
  exact ⟨_,rfl,hi⟩
 ·intro m hm
  exact ⟨_,rfl,rfl,hm⟩
theorem d12_ok {N : Nat} (hN : bigN N) (B : List S35) (C : List S46) (e t : Int) (hB : B.length ≤ 1000) (hC : C.length ≤ 1000) (hs : ∀ b ∈ B,(b.State.map Prod.fst).Nodup) :
  ∃ m,d12 N (S39.mk B C e) t = some (S39.mk B C e,m) ∧ RepM m (PM t B C) := by
 obtain ⟨⟨a,m⟩,h1,h2,h3⟩ := d12_ok' hN B C e t hB hC hs
 dsimp only at h2 h3
 subst h2
 exact ⟨m,h1,h3⟩

/-! ### the archive -/
def At (R : List S76) (i : Int) (e : S76) : Prop := 0 ≤ i ∧ R[i.toNat]? = some e
/-- a base of the archive and one of the reference -/
def BA (R : List S76) (a : Int × List Int) (a' : Int × List KV) : Prop :=
 a.1 = a'.1 ∧ ∃ st,All2 (At R) a.2 st ∧ st.length ≤ 40 ∧ (∀ e ∈ st,small e) ∧ (a'.2.map Prod.fst).Nodup ∧ RepL st (fun k r => (k,r) ∈ a'.2)
def BR (R : List S76) (b : S64) (b' : S35) : Prop := BA R (b.time,b.records) (b'.Time,b'.State)
def baseG (t : Int) (a : Int × List Int) (b : S64) : Int × List Int := if b.time ≤ t then (b.time,b.records) else a
theorem base_rel {R : List S76} (t : Int) : ∀ {B : List S64} {B' : List S35},All2 (BR R) B B' → ∀ {a : Int × List Int} {a' : Int × List KV},BA R a a' → BA R (B.foldl (baseG t) a) (B'.foldl (baseF t) a')
 | [],[],_,_,_,h => h
 | b :: B,b' :: B',h,a,a',ha => by
  show BA R (B.foldl (baseG t) (baseG t a b)) (B'.foldl (baseF t) (baseF t a' b'))
  refine base_rel t h.2 ?_
  have e : b.time = b'.Time := h.1.1
  unfold baseG baseF
  rw [e]
  by_cases ht : b'.Time ≤ t
  ·rw [if_pos ht,if_pos ht,← e]
   have := h.1
   unfold BR at this
   rw [← e] at this
   exact this
  ·rw [if_neg ht,if_neg ht];exact ha
 | [],_ :: _,h,_,_,_ => h.elim
 | _ :: _,[],h,_,_,_ => h.elim
theorem d18_ok' {N : Nat} (hN : bigN N) {R : List S76} {F : List Int} {B : List S64} {B' : List S35} {C : List S73} {e t : Int} (hB : All2 (BR R) B B') (hl : B.length ≤ 1000) (hC : C.length ≤ 900) (hne : B ≠ []) (h0 : ∀ b,B[0]? = some b → b.time = e)
  (hc : ∀ c ∈ C,c.key.size ≤ 24 ∧ c.row.length ≤ 6) (ht : e ≤ t) :
  ∃ r,d18 N (S68.mk R F B C e) t = some r ∧ r.1 = S68.mk R F B C e ∧ r.2.2 = 0 ∧ RepL r.2.1 (PM t B' (C.map toM)) ∧ r.2.1.length ≤ 40 + C.length ∧ ∀ x ∈ r.2.1,small x := by
 have hN' : 9223372036854775808 ≤ N := hN
 unfold d18
 rw [if_neg (by show ¬ t < e;omega)]
 have hbase : BA R (B.foldl (baseG t) (0,[])) (baseM t B') := by
  cases B with
  | nil => exact absurd rfl hne
  | cons b B =>
   cases B' with
   | nil => exact hB.elim
   | cons b' B' =>
    show BA R (B.foldl (baseG t) (baseG t (0,[]) b)) (B'.foldl (baseF t) (baseF t (-1,[]) b'))
    refine base_rel t hB.2 ?_
    have e1 : b.time = e := h0 b rfl
    have e2 : b.time = b'.Time := hB.1.1
    unfold baseG baseF
    rw [if_pos (by omega),if_pos (by omega)]
    exact hB.1
 refine bind_ex (P := fun s => s = B.foldl (baseG t) (0,[])) ⟨_,loop_fold B (fun (s : Int × List Int) k => (s.1,s.2,k)) _ (baseG t) (fun s => s) (0,[]) ?_ ?_ (n := N) (by omega),rfl⟩ ?_
 ·intro k x hx s _
  have hk : k < B.length := (List.getElem?_eq_some_iff.1 hx).1
  dsimp only
  rw [if_pos (by omega),idx_nat hx,Option.bind_some]
  unfold baseG
  by_cases ht : x.time ≤ t
  ·rw [if_pos ht,if_pos ht,chkI_of (by omega) (by omega),Option.bind_some]
  ·rw [if_neg ht,if_neg ht,chkI_of (by omega) (by omega),Option.bind_some]
 ·intro s _
  dsimp only
  rw [if_neg (by omega)]
 rintro s rfl
 unfold PM
 generalize B.foldl (baseG t) (0,[]) = a at hbase ⊢
 generalize baseM t B' = a' at hbase ⊢
 obtain ⟨v,l⟩ := a
 obtain ⟨v',m0⟩ := a'
 obtain ⟨rfl,st0,h1,h2,h3,h4,h5⟩ := hbase
 dsimp only at h1 h2 h3 h4 h5 ⊢
 have hlen := h1.len
 refine bind_ex (P := fun s => s = st0) (loop_idx (σ := List S76) l.length (fun s k => (s,k)) _ (fun k s => s = st0.take k) _ ?_ ?_ [] rfl (by omega)) ?_
 ·rintro k s hk rfl
  obtain ⟨i,hi⟩ := get_of hk
  obtain ⟨x,hx,hx1,hx2⟩ := h1.get k i hi
  dsimp only
  rw [if_pos (by omega),idx_nat hi,Option.bind_some]
  have : idx R i = some x := by unfold idx;rw [if_pos hx1];exact hx2
  rw [this,Option.bind_some,d24_ok (h3 x (List.mem_of_getElem? hx)).2,Option.bind_some]
  unfold appL
  rw [if_pos (by show _ ≤ 140737488355328;simp;omega),Option.bind_some,chkI_of (by omega) (by omega),Option.bind_some]
  refine .inl ⟨_,rfl,?_⟩
  rw [List.take_add_one,hx];rfl
 ·rintro s rfl
  dsimp only
  rw [if_neg (by omega)]
  exact ⟨_,rfl,by rw [hlen,List.take_length]⟩
 rintro s rfl
 refine bind_ex (P := fun st => RepL st ((C.map toM).foldl (chg v t) fun k r => (k,r) ∈ m0) ∧ st.length ≤ 40 + C.length ∧ ∀ x ∈ st,small x)
  (loop_idx (σ := List S76) C.length (fun s k => (s,k)) _ (fun k st => RepL st (((C.map toM).take k).foldl (chg v t) fun k r => (k,r) ∈ m0) ∧ st.length ≤ 40 + k ∧ ∀ x ∈ st,small x) _ ?_ ?_ s ⟨h5,by omega,h3⟩ (by omega)) ?_
 ·rintro k st hk ⟨i1,i2,i3⟩
  obtain ⟨x,hx⟩ := get_of hk
  have hxm : (C.map toM)[k]? = some (toM x) := by rw [List.getElem?_map,hx];rfl
  obtain ⟨g1,g2⟩ := hc x (List.mem_of_getElem? hx)
  dsimp only
  rw [if_pos (by omega),idx_nat hx,Option.bind_some,fold_take _ _ hxm]
  unfold chg
  left
  by_cases q1 : x.time ≤ v
  ·rw [if_pos q1,Option.bind_some,if_pos rfl,Option.bind_some,chkI_of (by omega) (by omega),Option.bind_some,if_neg (fun h : inT v t (toM x) => absurd h.1 (by show ¬ v < x.time;omega))]
   exact ⟨_,rfl,i1,by omega,i3⟩
  ·rw [if_neg q1,Option.bind_some]
   by_cases q2 : x.time > t
   ·rw [if_pos (by simp [q2]),Option.bind_some,chkI_of (by omega) (by omega),Option.bind_some,if_neg (fun h : inT v t (toM x) => absurd h.2 (by show ¬ x.time ≤ t;omega))]
    exact ⟨_,rfl,i1,by omega,i3⟩
   ·rw [if_neg (by simp;omega),if_pos (show inT v t (toM x) from ⟨by show v < x.time;omega,by show x.time ≤ t;omega⟩)]
    obtain ⟨st',j1,j2,j3,j4⟩ := stepB_ok hN i1 (by omega) i3 g1 g2
    unfold stepB at j1
    rw [j1,Option.bind_some,chkI_of (by omega) (by omega),Option.bind_some]
    exact ⟨_,rfl,j2,by omega,j4⟩
 ·rintro st ⟨i1,i2,i3⟩
  dsimp only
  rw [if_neg (by omega)]
  rw [List.take_of_length_le (by simp)] at i1
  exact ⟨_,rfl,i1,i2,i3⟩
 rintro st ⟨i1,i2,i3⟩
 have : d40 N st = some st := if_pos (by show st.length * 40 ≤ 140737488355328;omega)
 rw [this]
 exact ⟨_,rfl,rfl,rfl,i1,i2,i3⟩
theorem d18_ok {N : Nat} (hN : bigN N) {R : List S76} {F : List Int} {B : List S64} {B' : List S35} {C : List S73} {e t : Int} (hB : All2 (BR R) B B') (hl : B.length ≤ 1000) (hC : C.length ≤ 900) (hne : B ≠ []) (h0 : ∀ b,B[0]? = some b → b.time = e)
  (hc : ∀ c ∈ C,c.key.size ≤ 24 ∧ c.row.length ≤ 6) (ht : e ≤ t) :
  ∃ st,d18 N (S68.mk R F B C e) t = some (S68.mk R F B C e,st,0) ∧ RepL st (PM t B' (C.map toM)) ∧ st.length ≤ 40 + C.length ∧ ∀ x ∈ st,small x := by
 obtain ⟨⟨a,st,z⟩,h1,h2,h3,h4⟩ := d18_ok' hN hB hl hC hne h0 hc ht (F := F)
 dsimp only at h2 h3 h4
 subst h2 h3
 exact ⟨st,h1,h4⟩
end Go.Proofs.Ytfdhaigfonolpaa
end
section
namespace Go.Proofs.Ytfdhaigfonolpaa
open Go.Ab Go.Rp

/-! ### sorted records -/
theorem d44_ok (N : Nat) {x y : S76} (hx : small x) (hy : small y) : ∃ c,d44 N x y = some c ∧ (c < 0 ↔ klt x.Key y.Key) := by
 have hc : ∀ z : S76,small z → convB z.Key = some (u8s z.Key) := fun z hz => if_pos (Nat.le_trans hz.1 (by decide))
 have hb : ∀ s : ByteArray,(bstr (u8s s)).data.toList = bs s := fun s => by
  show (((u8s s).map fun n => UInt8.ofNat n.toNat).toArray).toList = s.data.toList
  unfold u8s
  rw [List.map_map]
  show List.map _ _ = _
  conv => rhs;rw [← List.map_id s.data.toList]
  refine List.map_congr_left fun b _ => ?_
  show UInt8.ofNat (b.toNat : Int).toNat = b
  simp
 unfold d44 d45
 rw [hc x hx,Option.bind_some,hc y hy,Option.bind_some,Option.bind_some,hb,hb]
 exact ⟨_,rfl,(cmpL _ _).1⟩
def mkR (x : KV) : S76 := S76.mk x.1 x.2
theorem recs_all {ρ : Type} : ∀ (l : List KV) (acc : List S76),acc.length + l.length ≤ 1000 → rangeL (ρ := ρ) (fun (x1 : ByteArray × (List S71)) => fun (l3 : List S76) => (appL 40 l3 [(S76.mk x1.1 x1.2)]).bind fun _ => some (.go (l3 ++ [(S76.mk x1.1 x1.2)]))) l acc = some (.go (acc ++ l.map mkR))
 | [],acc,_ => by rw [List.map_nil,List.append_nil];rfl
 | x :: l,acc,h => by
  rw [List.length_cons] at h
  rw [rangeL]
  unfold appL
  rw [if_pos (by show _ ≤ 140737488355328;simp;omega),Option.bind_some]
  show rangeL _ l _ = _
  have := recs_all (ρ := ρ) l (acc ++ [S76.mk x.1 x.2]) (by simp;omega)
  unfold appL at this
  rw [this]
  simp [mkR]
theorem d20_ok {N : Nat} {m : List KV} {st : List S76} {P : PK} (h1 : RepL st P) (h2 : RepM m P) (hs : ∀ e ∈ st,small e) (hl : st.length ≤ 1000) : d20 N m = some st := by
 unfold d20
 refine anyP_of fun l hl' => ?_
 have hlm : m.length = st.length := by rw [← (rep_len h1 h2).length_eq,List.length_map]
 rw [recs_all l [] (by rw [hl'.length_eq];simp;omega),bindO_go,List.nil_append]
 have hmem : ∀ x,x ∈ l.map mkR ↔ x ∈ st := fun x => by
  rw [h1.2,← h2.2,← hl'.mem_iff,List.mem_map]
  constructor
  ·rintro ⟨y,hy,rfl⟩;exact hy
  ·intro h;exact ⟨_,h,rfl⟩
 have hk : ((l.map mkR).map (·.Key)).Nodup := by
  rw [List.map_map]
  exact (hl'.map Prod.fst).nodup_iff.2 h2.1
 have hsm : ∀ x ∈ l.map mkR,small x := fun x hx => hs x ((hmem x).1 hx)
 have hll : (l.map mkR).length ≤ 1000 := by rw [List.length_map,hl'.length_eq];omega
 generalize l.map mkR = G at hmem hk hsm hll
 have hget : ∀ x ∈ G,∀ y ∈ G,((d44 N x y).getD 0 < 0 ↔ klt x.Key y.Key) := fun x hx y hy => by
  obtain ⟨c,h1,h2⟩ := d44_ok N (hsm x hx) (hsm y hy)
  rw [h1];exact h2
 obtain ⟨r,g1,g2,g3⟩ := sortO_some (fun b0 b1 => d44 N b0 b1) G (fun x hx y hy => by
   obtain ⟨c,h1,_⟩ := d44_ok N (hsm x hx) (hsm y hy)
   try dsimp only
   rw [h1];rfl) (fun x hx => by
   try dsimp only
   rw [hget x hx x hx];exact klt_irrefl _)
  (fun x hx y hy z hz => by
   try dsimp only
   rw [hget x hx y hy,hget y hy z hz,hget x hx z hz];exact klt_trans)
  (fun x hx y hy z hz => by
   try dsimp only
   rw [hget x hx y hy,hget y hy z hz,hget x hx z hz]
   intro a b c
   rcases klt_tri a with h | h
   ·rw [h] at c;exact b c
   ·exact b (klt_trans h c)) (by omega)
 unfold d43
 rw [g1,Option.bind_some]
 congr 1
 have hsr : Srt r := by
  refine List.pairwise_iff_forall_sublist.2 ?_
  intro a b hab
  have ha : a ∈ G := g2.subset (hab.subset (by simp))
  have hb : b ∈ G := g2.subset (hab.subset (by simp))
  have h5 := List.pairwise_iff_forall_sublist.1 g3 hab
  rw [hget b hb a ha] at h5
  rcases klt_tri h5 with h | h
  ·have hn : (r.map (·.Key)).Nodup := (g2.map _).nodup_iff.2 hk
   have := List.pairwise_iff_forall_sublist.1 (List.pairwise_map.1 hn) hab
   exact absurd h.symm this
  ·exact h
 exact Srt.ext hsr h1.1 fun e => (g2.mem_iff).trans (hmem e)
theorem d42_ok {N : Nat} (hN : bigN N) {x : S76} (hx : small x) : d42 N x x = some true := by
 have hN : 9223372036854775808 ≤ N := hN
 unfold d42
 rw [if_pos (by simp)]
 obtain ⟨r,h1,h2⟩ := d30_eq N x.Row x.Row ⟨by have := hx.2;omega,by have := hx.2;omega⟩
 rw [h1,h2.2 rfl];rfl
theorem d19_ok {N : Nat} (hN : bigN N) {st : List S76} (hs : ∀ e ∈ st,small e) (hl : st.length ≤ 1000) : d19 N st st = some true := by
 have hN' : 9223372036854775808 ≤ N := hN
 unfold d19 d41
 rw [if_neg (by simp)]
 have : bindO (β := Unit) (ρ := Bool) (
  iterN (σ := Int) (ρ := (Out Unit Bool)) (fun (v8 : Int) =>
   if v8 < (st.length : Int) then (
    (idx st v8).bind fun x25 =>
    (idx st v8).bind fun x27 =>
    (d42 N x25 x27).bind fun r28 =>
    if (!r28) = true then (
     some (.inr (.ret false))
    ) else
    (chkI (v8 + 1)).bind fun v30 =>
    some (.inl v30)
   ) else
   some (.inr (.go ()))
  ) N 0) (fun (_ : Unit) => some true) = some true := by
  refine bindO_eq (P := fun o => o = .go ()) (loop_idx (σ := Unit) st.length (fun _ j => j) _ (fun _ _ => True) _ ?_ ?_ () trivial (by omega)) ?_ ?_
  ·intro k s hk _
   obtain ⟨x,hx⟩ := get_of hk
   rw [if_pos (by omega),idx_nat hx,Option.bind_some,Option.bind_some,d42_ok hN (hs x (List.mem_of_getElem? hx)),Option.bind_some,if_neg (by simp),chkI_of (by omega) (by omega),Option.bind_some]
   exact .inl ⟨(),rfl,trivial⟩
  ·intro s _
   rw [if_neg (by omega)]
   exact ⟨_,rfl,rfl⟩
  ·intro x h;cases h
  ·intro _ _;rfl
 rw [this];rfl

/-! ### the latest time -/
def IsLat (v : Int) (tb tc : List Int) : Prop := (∀ b ∈ tb,b ≤ v) ∧ (∀ c ∈ tc,c ≤ v) ∧ (v ∈ tb ∨ v ∈ tc)
theorem IsLat.uniq {v w : Int} {tb tc : List Int} (h1 : IsLat v tb tc) (h2 : IsLat w tb tc) : v = w := by
 have a : v ≤ w := h1.2.2.elim (fun h => h2.1 v h) (fun h => h2.2.1 v h)
 have b : w ≤ v := h2.2.2.elim (fun h => h1.1 w h) (fun h => h1.2.1 w h)
 omega
theorem last_max {α : Type} (f : α → Int) {l : List α} (h : l.Pairwise fun x y => f x < f y) {x : α} (hx : l[l.length - 1]? = some x) : ∀ y ∈ l,f y ≤ f x := by
 intro y hy
 obtain ⟨i,hi,rfl⟩ := List.mem_iff_getElem.1 hy
 obtain ⟨hj,rfl⟩ := List.getElem?_eq_some_iff.1 hx
 by_cases e : i = l.length - 1
 ·subst e;exact Int.le_refl _
 ·exact Int.le_of_lt (List.pairwise_iff_getElem.1 h i (l.length - 1) hi hj (by omega))
theorem maxI_le {a b : Int} : a ≤ maxI a b ∧ b ≤ maxI a b ∧ (maxI a b = a ∨ maxI a b = b) := by
 unfold maxI
 split <;> refine ⟨by omega,by omega,?_⟩ <;> simp
theorem d23_ok {N : Nat} {R : List S76} {F : List Int} {B : List S64} {C : List S73} {e : Int} (hB : B ≠ []) (hb : B.length ≤ 1000) (hc : C.length ≤ 1000) (sB : B.Pairwise fun x y => x.time < y.time) (sC : C.Pairwise fun x y => x.time < y.time) :
  ∃ v,d23 N (S68.mk R F B C e) = some v ∧ IsLat v (B.map (·.time)) (C.map (·.time)) := by
 have hbl : 0 < B.length := List.length_pos_iff.2 hB
 obtain ⟨b,hb1⟩ := get_of (l := B) (k := B.length - 1) (by omega)
 have e1 : chkI ((B.length : Int) - 1) = some ((B.length - 1 : Nat) : Int) := by rw [chkI_of (by omega) (by omega)];congr 1;omega
 have hbm := last_max (·.time) sB hb1
 unfold d23
 rw [e1,Option.bind_some,idx_nat hb1,Option.bind_some]
 by_cases h0 : (C.length : Int) > 0
 ·rw [if_pos h0]
  obtain ⟨c,hc1⟩ := get_of (l := C) (k := C.length - 1) (by omega)
  have e2 : chkI ((C.length : Int) - 1) = some ((C.length - 1 : Nat) : Int) := by rw [chkI_of (by omega) (by omega)];congr 1;omega
  have hcm := last_max (·.time) sC hc1
  rw [e2,Option.bind_some,idx_nat hc1,Option.bind_some,letv_eq]
  obtain ⟨m1,m2,m3⟩ := maxI_le (a := b.time) (b := c.time)
  refine ⟨_,rfl,fun x hx => ?_,fun x hx => ?_,?_⟩
  ·obtain ⟨y,hy,rfl⟩ := List.mem_map.1 hx
   exact Int.le_trans (hbm y hy) m1
  ·obtain ⟨y,hy,rfl⟩ := List.mem_map.1 hx
   exact Int.le_trans (hcm y hy) m2
  ·rcases m3 with h | h
   ·rw [h];exact .inl (List.mem_map.2 ⟨b,List.mem_of_getElem? hb1,rfl⟩)
   ·rw [h];exact .inr (List.mem_map.2 ⟨c,List.mem_of_getElem? hc1,rfl⟩)
 ·rw [if_neg h0]
  refine ⟨_,rfl,fun x hx => ?_,fun x hx => ?_,.inl (List.mem_map.2 ⟨b,List.mem_of_getElem? hb1,rfl⟩)⟩
  ·obtain ⟨y,hy,rfl⟩ := List.mem_map.1 hx
   exact hbm y hy
  ·obtain rfl : C = [] := List.eq_nil_of_length_eq_zero (by omega)
   simp at hx
theorem fold_max {α : Type} (f : α → Int) : ∀ (l : List α) (a : Int),a ≤ l.foldl (fun v x => maxI v (f x)) a ∧ (∀ x ∈ l,f x ≤ l.foldl (fun v x => maxI v (f x)) a) ∧ (l.foldl (fun v x => maxI v (f x)) a = a ∨ l.foldl (fun v x => maxI v (f x)) a ∈ l.map f)
 | [],a => ⟨Int.le_refl _,by simp,.inl rfl⟩
 | x :: l,a => by
  obtain ⟨h1,h2,h3⟩ := fold_max f l (maxI a (f x))
  obtain ⟨m1,m2,m3⟩ := maxI_le (a := a) (b := f x)
  rw [List.foldl_cons]
  refine ⟨by omega,fun y hy => ?_,?_⟩
  ·rcases List.mem_cons.1 hy with rfl | hy
   ·omega
   ·exact h2 y hy
  ·rcases h3 with h | h
   ·rw [h]
    rcases m3 with h | h
    ·exact .inl h
    ·right;rw [h];simp
   ·right;rw [List.map_cons];exact List.mem_cons_of_mem _ h
theorem d10_ok {N : Nat} (hN : bigN N) {B : List S35} {C : List S46} {e : Int} (hb : B.length ≤ 1000) (hc : C.length ≤ 1000) (h0 : ∃ b ∈ B,0 ≤ b.Time) :
  ∃ v,d10 N (S39.mk B C e) = some (S39.mk B C e,v) ∧ IsLat v (B.map (·.Time)) (C.map (·.Time)) := by
 have hN' : 9223372036854775808 ≤ N := hN
 unfold d10
 rw [loop_fold B (fun (s : Int) k => (s,k)) _ (fun v (x : S35) => maxI v x.Time) (fun s => s) 0 (by
  intro k x hx s _
  have hk : k < B.length := (List.getElem?_eq_some_iff.1 hx).1
  dsimp only
  rw [if_pos (by omega),idx_nat hx,Option.bind_some,letv_eq,chkI_of (by omega) (by omega),Option.bind_some]) (by
  intro s _
  dsimp only
  rw [if_neg (by omega)]) (n := N) (by omega),Option.bind_some]
 obtain ⟨a1,a2,a3⟩ := fold_max (·.Time) B 0
 generalize B.foldl (fun v (x : S35) => maxI v x.Time) 0 = v at a1 a2 a3 ⊢
 rw [loop_fold C (fun (s : Int) k => (s,k)) _ (fun v (x : S46) => maxI v x.Time) (fun s => s) v (by
  intro k x hx s _
  have hk : k < C.length := (List.getElem?_eq_some_iff.1 hx).1
  dsimp only
  rw [if_pos (by omega),idx_nat hx,Option.bind_some,letv_eq,chkI_of (by omega) (by omega),Option.bind_some]) (by
  intro s _
  dsimp only
  rw [if_neg (by omega)]) (n := N) (by omega),Option.bind_some]
 obtain ⟨b1,b2,b3⟩ := fold_max (·.Time) C v
 generalize C.foldl (fun v (x : S46) => maxI v x.Time) v = w at b1 b2 b3 ⊢
 refine ⟨w,rfl,fun x hx => ?_,fun x hx => ?_,?_⟩
 ·obtain ⟨y,hy,rfl⟩ := List.mem_map.1 hx
  exact Int.le_trans (a2 y hy) b1
 ·obtain ⟨y,hy,rfl⟩ := List.mem_map.1 hx
  exact b2 y hy
 ·rcases b3 with h | h
  ·rw [h]
   rcases a3 with h | h
   ·obtain ⟨b,hb,hb0⟩ := h0
    have := a2 b hb
    left
    rw [h]
    exact List.mem_map.2 ⟨b,hb,by omega⟩
   ·exact .inl h
  ·exact .inr h
end Go.Proofs.Ytfdhaigfonolpaa
end
section
namespace Go.Proofs.Ytfdhaigfonolpaa
open Go.Ab Go.Rp

theorem All2.mem {α β : Type} {R : α → β → Prop} : ∀ {l : List α} {m : List β},All2 R l m → ∀ a ∈ l,∃ b ∈ m,R a b
 | x :: l,y :: m,h,a,ha => by
  rcases List.mem_cons.1 ha with rfl | ha
  ·exact ⟨y,by simp,h.1⟩
  ·obtain ⟨b,h1,h2⟩ := All2.mem h.2 a ha
   exact ⟨b,List.mem_cons_of_mem _ h1,h2⟩
 | [],_,_,a,ha => by simp at ha
 | _ :: _,[],h,_,_ => h.elim
theorem All2.mem2 {α β : Type} {R : α → β → Prop} : ∀ {l : List α} {m : List β},All2 R l m → ∀ b ∈ m,∃ a ∈ l,R a b
 | x :: l,y :: m,h,a,ha => by
  rcases List.mem_cons.1 ha with rfl | ha
  ·exact ⟨x,by simp,h.1⟩
  ·obtain ⟨b,h1,h2⟩ := All2.mem2 h.2 a ha
   exact ⟨b,List.mem_cons_of_mem _ h1,h2⟩
 | _,[],_,a,ha => by simp at ha
 | [],_ :: _,h,_,_ => h.elim
theorem All2.app' {α β : Type} {R : α → β → Prop} {l : List α} {m : List β} (h : All2 R l m) {a : α} {b : β} (h2 : R a b) : All2 R (l ++ [a]) (m ++ (some b).toList) := All2.app (l' := [a]) (m' := [b]) ⟨h2,trivial⟩ h
def cnt (B : List S64) (i : Nat) : Nat := ((B.map (·.records)).flatten).count (i : Int)
theorem cnt_append (B : List S64) (b : S64) (i : Nat) : cnt (B ++ [b]) i = cnt B i + b.records.count (i : Int) := by simp [cnt]
theorem cnt_cons (B : List S64) (b : S64) (i : Nat) : cnt (b :: B) i = b.records.count (i : Int) + cnt B i := by simp [cnt]
theorem cnt_pos {B : List S64} {i : Nat} : 0 < cnt B i ↔ ∃ b ∈ B,(i : Int) ∈ b.records := by
 unfold cnt
 rw [List.count_pos_iff,List.mem_flatten]
 constructor
 ·rintro ⟨l,h1,h2⟩
  obtain ⟨b,hb,rfl⟩ := List.mem_map.1 h1
  exact ⟨b,hb,h2⟩
 ·rintro ⟨b,hb,h⟩
  exact ⟨_,List.mem_map.2 ⟨b,hb,rfl⟩,h⟩
theorem setI_nat {α : Type} (l : List α) (i : Nat) (v : α) : setI l (i : Int) v = l.set i v := by unfold setI;rw [Int.toNat_natCast]
theorem At.nat {R : List S76} {i : Int} {x : S76} (h : At R i x) : ∃ n : Nat,i = n ∧ R[n]? = some x := ⟨i.toNat,by have := h.1;omega,h.2⟩
theorem At.of {R : List S76} {n : Nat} {x : S76} (h : R[n]? = some x) : At R (n : Int) x := ⟨by omega,by rw [Int.toNat_natCast];exact h⟩

/-! ### the search for a record, the search for a free place -/
theorem d25_ok {N : Nat} (hN : bigN N) {R : List S76} {F : List Int} {B : List S64} {C : List S73} {e : Int} (hl : F.length = R.length) (hr : R.length ≤ 1000) {x : S76} (hx : small x) :
  (∃ i : Nat,d25 N (S68.mk R F B C e) x = some (i : Int) ∧ R[i]? = some x ∧ ∃ v,F[i]? = some v ∧ 0 < v) ∨
  (d25 N (S68.mk R F B C e) x = some (-1) ∧ ∀ (i : Nat) (v : Int),F[i]? = some v → 0 < v → R[i]? ≠ some x) := by
 have hN' : 9223372036854775808 ≤ N := hN
 have main : ∃ r,d25 N (S68.mk R F B C e) x = some r ∧ ((∃ i : Nat,r = (i : Int) ∧ R[i]? = some x ∧ ∃ v,F[i]? = some v ∧ 0 < v) ∨ (r = -1 ∧ ∀ (i : Nat) (v : Int),F[i]? = some v → 0 < v → R[i]? ≠ some x)) := by
  unfold d25
  refine bk_bindO (P := fun (o : Out Unit Int) => match o with | .ret r => (∃ i : Nat,r = (i : Int) ∧ R[i]? = some x ∧ ∃ v,F[i]? = some v ∧ 0 < v) | .go _ => ∀ (i : Nat) (v : Int),F[i]? = some v → 0 < v → R[i]? ≠ some x)
   (loop_idx (σ := Unit) R.length (fun _ j => j) _ (fun k _ => ∀ (i : Nat) (v : Int),i < k → F[i]? = some v → 0 < v → R[i]? ≠ some x) _ ?_ ?_ () (fun i v hi => by omega) (by omega)) ?_ ?_
  ·intro k s hk hi
   obtain ⟨y,hy⟩ := get_of hk
   obtain ⟨v,hv⟩ := get_of (l := F) (k := k) (by omega)
   show (∃ s' : Unit,_) ∨ _
   rw [if_pos (by show (k : Int) < (R.length : Int);omega),idx_nat hy,Option.bind_some,idx_nat hv,Option.bind_some]
   have goOn : (R[k]? = some x → 0 < v → False) → ∃ s' : Unit,(chkI ((k : Int) + 1)).bind (fun v57 => some (Sum.inl v57)) = some (Sum.inl (β := Out Unit Int) ((k : Int) + 1)) ∧ ∀ (i : Nat) (v : Int),i < k + 1 → F[i]? = some v → 0 < v → R[i]? ≠ some x := by
    intro hne
    refine ⟨(),by rw [chkI_of (by omega) (by omega)];rfl,fun i w hi' hw hw0 hx' => ?_⟩
    by_cases e : i = k
    ·subst e
     rw [hv] at hw
     injection hw with hw
     exact hne hx' (by omega)
    ·exact hi i w (by omega) hw hw0 hx'
   by_cases h1 : v > 0
   ·rw [if_pos h1]
    by_cases h2 : y.Key = x.Key
    ·rw [if_pos (by simp [h2])]
     obtain ⟨b,hb,hb2⟩ := d30_eq N y.Row x.Row ⟨by have := hx.2;omega,by have := hx.2;omega⟩
     rw [hb,Option.bind_some,Option.bind_some]
     by_cases h3 : y.Row = x.Row
     ·right
      rw [if_pos (hb2.2 h3)]
      have : y = x := by cases y;cases x;simp only at h2 h3;rw [h2,h3]
      exact ⟨_,rfl,k,rfl,by rw [hy,this],v,hv,h1⟩
     ·left
      rw [if_neg fun h => h3 (hb2.1 h)]
      exact goOn fun h _ => h3 (by rw [hy] at h;injection h with h;rw [h])
    ·left
     rw [if_neg (by simp [h2]),Option.bind_some,if_neg (by simp)]
     exact goOn fun h _ => h2 (by rw [hy] at h;injection h with h;rw [h])
   ·left
    rw [if_neg h1,Option.bind_some,if_neg (by simp)]
    exact goOn fun _ h => h1 h
  ·intro s hi
   rw [if_neg (by show ¬ (R.length : Int) < (R.length : Int);omega)]
   refine ⟨_,rfl,?_⟩
   show ∀ (i : Nat) (v : Int),F[i]? = some v → 0 < v → R[i]? ≠ some x
   intro i v hv
   exact hi i v (by obtain ⟨h,_⟩ := List.getElem?_eq_some_iff.1 hv;omega) hv
  ·intro r hr
   exact .inl hr
  ·intro _ h
   exact ⟨_,rfl,.inr ⟨rfl,h⟩⟩
 obtain ⟨r,h1,h2⟩ := main
 rcases h2 with ⟨i,rfl,h2⟩ | ⟨rfl,h2⟩
 ·exact .inl ⟨i,h1,h2⟩
 ·exact .inr ⟨h1,h2⟩
theorem d26_ok {N : Nat} (hN : bigN N) {F : List Int} (hl : F.length ≤ 1000) :
  (∃ i : Nat,d26 N F 0 = some (i : Int) ∧ F[i]? = some 0) ∨ (d26 N F 0 = some (-1) ∧ (0 : Int) ∉ F) := by
 have hN' : 9223372036854775808 ≤ N := hN
 have main : ∃ r,d26 N F 0 = some r ∧ ((∃ i : Nat,r = (i : Int) ∧ F[i]? = some 0) ∨ (r = -1 ∧ (0 : Int) ∉ F)) := by
  unfold d26
  refine bk_bindO (P := fun (o : Out Unit Int) => match o with | .ret r => (∃ i : Nat,r = (i : Int) ∧ F[i]? = some 0) | .go _ => (0 : Int) ∉ F)
   (loop_idx (σ := Unit) F.length (fun _ j => j) _ (fun k _ => (0 : Int) ∉ F.take k) _ ?_ ?_ () (by simp) (n := N) (by omega)) ?_ ?_
  ·intro k s hk hi
   obtain ⟨y,hy⟩ := get_of hk
   show (∃ s' : Unit,_) ∨ _
   rw [if_pos (by omega),idx_nat hy,Option.bind_some]
   by_cases h : y = 0
   ·right
    rw [if_pos (by rw [h];rfl)]
    exact ⟨_,rfl,k,rfl,by rw [hy,h]⟩
   ·left
    rw [if_neg (by simp;exact fun e => h e.symm),chkI_of (by omega) (by omega)]
    refine ⟨(),rfl,?_⟩
    rw [List.take_add_one,hy]
    simp only [Option.toList_some,List.mem_append,List.mem_singleton,not_or]
    exact ⟨hi,fun e => h e.symm⟩
  ·intro s hi
   rw [if_neg (by omega)]
   rw [List.take_length] at hi
   exact ⟨_,rfl,hi⟩
  ·intro r hr
   exact .inl hr
  ·intro _ h
   exact ⟨_,rfl,.inr ⟨rfl,h⟩⟩
 obtain ⟨r,h1,h2⟩ := main
 rcases h2 with ⟨i,rfl,h2⟩ | ⟨rfl,h2⟩
 ·exact .inl ⟨i,h1,h2⟩
 ·exact .inr ⟨h1,h2⟩

/-! ### the loop of a full backup -/
structure FI (R0 : List S76) (B : List S64) (st : List S76) (k : Nat) (R : List S76) (F : List Int) (recs : List Int) : Prop where
 lF : F.length = R.length
 hF : ∀ i,i < R.length → F[i]? = some ((cnt B i + recs.count (i : Int) : Nat) : Int)
 ats : All2 (At R) recs (st.take k)
 keep : ∀ i,0 < cnt B i → R[i]? = R0[i]?
 low : ∀ i,0 < cnt B i → i < R.length
 inj : ∀ i j x,0 < cnt B i + recs.count (i : Int) → 0 < cnt B j + recs.count (j : Int) → R[i]? = some x → R[j]? = some x → i = j
theorem FI.rlow {R0 : List S76} {B : List S64} {st : List S76} {k : Nat} {R : List S76} {F : List Int} {recs : List Int} (h : FI R0 B st k R F recs) {i : Nat} (hi : 0 < recs.count (i : Int)) : ∃ x ∈ st.take k,R[i]? = some x := by
 obtain ⟨x,hx,h1⟩ := h.ats.mem _ (List.count_pos_iff.1 hi)
 exact ⟨x,hx,by have := h1.2;rwa [Int.toNat_natCast] at this⟩
/-- what is stored already -/
def Old (R : List S76) (B : List S64) (x : S76) : Prop := ∃ i,0 < cnt B i ∧ R[i]? = some x
/-- a record is found -/
theorem FI.found {R0 : List S76} {B : List S64} {st : List S76} {k : Nat} {R : List S76} {F : List Int} {recs : List Int} (h : FI R0 B st k R F recs) {x : S76} (hx : st[k]? = some x) (hn : x ∉ st.take k) {i : Nat} (hi : R[i]? = some x) {v : Int} (hv : F[i]? = some v) (hp : 0 < v) :
  Old R0 B x ∧ FI R0 B st (k + 1) R (F.set i (v + 1)) (recs ++ [(i : Int)]) := by
 have hil : i < R.length := (List.getElem?_eq_some_iff.1 hi).1
 have hv2 := h.hF i hil
 rw [hv] at hv2
 injection hv2 with hv2
 have hc : 0 < cnt B i + recs.count (i : Int) := by omega
 have hc0 : 0 < cnt B i := by
  rcases Nat.eq_zero_or_pos (recs.count (i : Int)) with e | e
  ·omega
  ·obtain ⟨y,hy,h2⟩ := h.rlow e
   rw [hi] at h2
   injection h2 with h2
   exact absurd (h2 ▸ hy) hn
 have hcount : ∀ j : Nat,(recs ++ [(i : Int)]).count (j : Int) = recs.count (j : Int) + if i = j then 1 else 0 := fun j => by
  rw [List.count_append,List.count_singleton]
  congr 1
  by_cases e : i = j
  ·simp [e]
  ·have : ¬ (i : Int) = (j : Int) := fun h => e (Int.ofNat_inj.1 h)
   simp [e,this]
 have hpos : ∀ j : Nat,0 < cnt B j + (recs ++ [(i : Int)]).count (j : Int) → 0 < cnt B j + recs.count (j : Int) := fun j hj => by
  rw [hcount] at hj
  by_cases e : i = j
  ·subst e;exact hc
  ·rw [if_neg e] at hj;exact hj
 refine ⟨⟨i,hc0,by rw [← h.keep i hc0];exact hi⟩,⟨by rw [List.length_set];exact h.lF,fun j hj => ?_,?_,h.keep,h.low,fun a b y ha hb => h.inj a b y (hpos a ha) (hpos b hb)⟩⟩
 ·rw [List.getElem?_set,hcount]
  by_cases e : i = j
  ·subst e
   rw [if_pos rfl,if_pos (by rw [h.lF];exact hj),if_pos rfl]
   congr 1;omega
  ·rw [if_neg e,if_neg e,h.hF j hj];rfl
 ·rw [List.take_add_one,hx]
  exact h.ats.app' (At.of hi)
/-- room is made -/
theorem FI.room {R0 : List S76} {B : List S64} {st : List S76} {k : Nat} {R : List S76} {F : List Int} {recs : List Int} (h : FI R0 B st k R F recs) (z : S76) : FI R0 B st k (R ++ [z]) (F ++ [0]) recs := by
 have hlow : ∀ i,0 < cnt B i + recs.count (i : Int) → i < R.length := fun i hi => by
  rcases Nat.eq_zero_or_pos (cnt B i) with e | e
  ·obtain ⟨x,_,h2⟩ := h.rlow (i := i) (by omega)
   exact (List.getElem?_eq_some_iff.1 h2).1
  ·exact h.low i e
 have hget : ∀ i,i < R.length → (R ++ [z])[i]? = R[i]? := fun i hi => List.getElem?_append_left hi
 refine ⟨by simp [h.lF],fun i hi => ?_,?_,fun i hi => ?_,fun i hi => ?_,fun i j x hi hj h1 h2 => ?_⟩
 ·rw [List.length_append,List.length_singleton] at hi
  by_cases e : i < R.length
  ·rw [List.getElem?_append_left (by rw [h.lF];exact e)];exact h.hF i e
  ·have e2 : i = R.length := by omega
   have : ¬ 0 < cnt B i + recs.count (i : Int) := fun h => e (hlow i h)
   rw [show cnt B i + recs.count (i : Int) = 0 by omega,e2,← h.lF]
   simp
 ·refine h.ats.imp fun a ha b hb hab => ?_
  obtain ⟨n,rfl,hn⟩ := hab.nat
  exact At.of ((hget n (List.getElem?_eq_some_iff.1 hn).1).trans hn)
 ·rw [hget i (h.low i hi)];exact h.keep i hi
 ·rw [List.length_append];have := h.low i hi;omega
 ·rw [hget i (hlow i hi)] at h1
  rw [hget j (hlow j hj)] at h2
  exact h.inj i j x hi hj h1 h2
/-- a record that is not found goes to a free place -/
theorem FI.put {R0 : List S76} {B : List S64} {st : List S76} {k : Nat} {R : List S76} {F : List Int} {recs : List Int} (h : FI R0 B st k R F recs) {x : S76} (hx : st[k]? = some x) (hn : ∀ (i : Nat) (v : Int),F[i]? = some v → 0 < v → R[i]? ≠ some x) {i : Nat} (hi : F[i]? = some 0) :
  ¬ Old R0 B x ∧ FI R0 B st (k + 1) (R.set i x) (F.set i 1) (recs ++ [(i : Int)]) := by
 have hil : i < R.length := by rw [← h.lF];exact (List.getElem?_eq_some_iff.1 hi).1
 have hi2 := h.hF i hil
 rw [hi] at hi2
 injection hi2 with hi2
 have hc0 : cnt B i + recs.count (i : Int) = 0 := by omega
 have hcount : ∀ j : Nat,(recs ++ [(i : Int)]).count (j : Int) = recs.count (j : Int) + if i = j then 1 else 0 := fun j => by
  rw [List.count_append,List.count_singleton]
  congr 1
  by_cases e : i = j
  ·simp [e]
  ·have : ¬ (i : Int) = (j : Int) := fun h => e (Int.ofNat_inj.1 h)
   simp [e,this]
 have hlow : ∀ i,0 < cnt B i + recs.count (i : Int) → i < R.length := fun i hi => by
  rcases Nat.eq_zero_or_pos (cnt B i) with e | e
  ·obtain ⟨x,_,h2⟩ := h.rlow (i := i) (by omega)
   exact (List.getElem?_eq_some_iff.1 h2).1
  ·exact h.low i e
 have hno : ∀ j,0 < cnt B j + recs.count (j : Int) → R[j]? ≠ some x := fun j hj => hn j _ (h.hF j (hlow j hj)) (by omega)
 have hne : ∀ j,0 < cnt B j + recs.count (j : Int) → i ≠ j := fun j hj e => by subst e;omega
 have hget : ∀ j,i ≠ j → (R.set i x)[j]? = R[j]? := fun j hj => List.getElem?_set_ne hj
 have hself : (R.set i x)[i]? = some x := by rw [List.getElem?_set_self hil]
 have hcase : ∀ j : Nat,0 < cnt B j + (recs ++ [(i : Int)]).count (j : Int) → i = j ∨ 0 < cnt B j + recs.count (j : Int) := fun j hj => by
  rw [hcount] at hj
  by_cases e : i = j
  ·exact .inl e
  ·rw [if_neg e] at hj;exact .inr hj
 refine ⟨fun ⟨j,h1,h2⟩ => hno j (by omega) ((h.keep j h1).trans h2),⟨by rw [List.length_set,List.length_set];exact h.lF,fun j hj => ?_,?_,fun j hj => ?_,fun j hj => ?_,fun a b y ha hb h1 h2 => ?_⟩⟩
 ·rw [List.length_set] at hj
  rw [List.getElem?_set,hcount]
  by_cases e : i = j
  ·subst e
   rw [if_pos rfl,if_pos (by rw [h.lF];exact hj),if_pos rfl]
   congr 1;omega
  ·rw [if_neg e,if_neg e,h.hF j hj];rfl
 ·rw [List.take_add_one,hx]
  refine All2.app' (h.ats.imp fun a ha b hb hab => ?_) (At.of hself)
  obtain ⟨n,rfl,hn⟩ := hab.nat
  exact At.of ((hget n (hne n (by have := List.count_pos_iff.2 ha;omega))).trans hn)
 ·rw [hget j (hne j (by omega))];exact h.keep j hj
 ·rw [List.length_set];exact h.low j hj
 ·rcases hcase a ha with e1 | e1 <;> rcases hcase b hb with e2 | e2
  ·rw [← e1,← e2]
  ·exfalso
   rw [← e1,hself] at h1
   injection h1 with h1
   rw [hget b (hne b e2)] at h2
   exact hno b e2 (h2.trans (by rw [h1]))
  ·exfalso
   rw [← e2,hself] at h2
   injection h2 with h2
   rw [hget a (hne a e1)] at h1
   exact hno a e1 (h1.trans (by rw [h2]))
  ·rw [hget a (hne a e1)] at h1
   rw [hget b (hne b e2)] at h2
   exact h.inj a b y e1 e2 h1 h2
theorem cover : ∀ (n : Nat) (T : List Int),(∀ i : Nat,i < n → (i : Int) ∈ T) → n ≤ T.length
 | 0,_,_ => Nat.zero_le _
 | n + 1,T,h => by
  have hm := h n (by omega)
  have := cover n (T.erase (n : Int)) fun i hi => (List.mem_erase_of_ne (by omega)).2 (h i (by omega))
  rw [List.length_erase_of_mem hm] at this
  have : 0 < T.length := List.length_pos_of_mem hm
  omega
theorem flat_len {R : List S76} : ∀ {B : List S64} {B' : List S35},All2 (BR R) B B' → ((B.map (·.records)).flatten).length ≤ 40 * B.length
 | [],[],_ => by simp
 | b :: B,b' :: B',h => by
  have := flat_len h.2
  obtain ⟨_,st,h1,h2,_⟩ := h.1
  have h4 : b.records.length = st.length := h1.len
  simp only [List.map_cons,List.flatten_cons,List.length_append,List.length_cons]
  omega
 | [],_ :: _,h => h.elim
 | _ :: _,[],h => h.elim
theorem FI.full {R0 : List S76} {B : List S64} {B' : List S35} {st : List S76} {k : Nat} {R : List S76} {F : List Int} {recs : List Int} (h : FI R0 B st k R F recs) (hB : All2 (BR R0) B B') (hl : B.length ≤ 20) (hst : st.length ≤ 40) (h0 : (0 : Int) ∉ F) : R.length ≤ 840 := by
 have := cover R.length ((B.map (·.records)).flatten ++ recs) fun i hi => by
  have h1 := h.hF i hi
  have : 0 < cnt B i + recs.count (i : Int) := by
   rcases Nat.eq_zero_or_pos (cnt B i + recs.count (i : Int)) with e | e
   ·rw [e] at h1
    exact absurd (List.mem_of_getElem? h1) h0
   ·exact e
  rw [List.mem_append]
  rcases Nat.eq_zero_or_pos (cnt B i) with e | e
  ·exact .inr (List.count_pos_iff.1 (by omega))
  ·exact .inl (List.count_pos_iff.1 e)
 rw [List.length_append] at this
 have a := flat_len hB
 have b := h.ats.len
 rw [List.length_take] at b
 omega
end Go.Proofs.Ytfdhaigfonolpaa
end
section
namespace Go.Proofs.Ytfdhaigfonolpaa
open Go.Ab Go.Rp

theorem mem_take_succ {α : Type} {xs : List α} {k : Nat} {x y : α} (h : xs[k]? = some x) : y ∈ xs.take (k + 1) ↔ y ∈ xs.take k ∨ y = x := by
 rw [List.take_add_one,h];simp
theorem find_idx {α : Type} (xs : List α) (f : α → Bool) : (xs.findIdx? f = none ∧ xs.find? f = none) ∨ ∃ k x,xs.findIdx? f = some k ∧ xs.find? f = some x ∧ xs[k]? = some x ∧ f x = true := by
 cases h : xs.findIdx? f with
 | none =>
  refine .inl ⟨rfl,?_⟩
  rw [List.findIdx?_eq_none_iff] at h
  rw [List.find?_eq_none]
  intro x hx
  simp [h x hx]
 | some k =>
  obtain ⟨h1,h2,h3⟩ := List.findIdx?_eq_some_iff_getElem.1 h
  refine .inr ⟨k,xs[k],rfl,?_,List.getElem?_eq_getElem h1,h2⟩
  rw [List.find?_eq_some_iff_getElem]
  exact ⟨h2,k,h1,rfl,fun j hj => by have := h3 j hj;simpa using this⟩
theorem iter_fwd {σ τ ρ : Type} (len : Nat) (mkS : σ → Int → τ) (step : τ → Option (τ ⊕ ρ)) (Inv : Nat → σ → Prop) (fin : σ → ρ)
  (hs : ∀ k s,k < len → Inv k s → ∃ s',step (mkS s k) = some (.inl (mkS s' ((k : Int) + 1))) ∧ Inv (k + 1) s') (he : ∀ s,Inv len s → step (mkS s len) = some (.inr (fin s)))
  (s0 : σ) (h0 : Inv 0 s0) {n : Nat} (hn : len < n) : ∃ s,iterN step n (mkS s0 0) = some (fin s) ∧ Inv len s := by
 have key : ∀ (m k : Nat) (s : σ),k ≤ len → len - k < m → Inv k s → ∃ s',iterN step m (mkS s k) = some (fin s') ∧ Inv len s' := by
  intro m
  induction m with
  | zero => intro k s _ h;omega
  | succ m ih =>
   intro k s hk hm hi
   rw [iterN_succ]
   by_cases hlt : k < len
   ·obtain ⟨s',h1,h2⟩ := hs k s hlt hi
    rw [h1]
    exact ih (k + 1) s' (by omega) (by omega) h2
   ·obtain rfl : k = len := by omega
    rw [he s hi]
    exact ⟨s,rfl,hi⟩
 exact key n 0 s0 (Nat.zero_le _) (by omega) h0
theorem d47_ok {N : Nat} (hN : bigN N) (xs : List S73) (p : S73 → Option Bool) (f : S73 → Bool) (hp : ∀ x,p x = some (f x)) (hl : xs.length ≤ 140737488355328) : d47 N xs p = some (optI (xs.findIdx? f)) := by
 have hN : 9223372036854775808 ≤ N := hN
 unfold d47
 refine bindO_eq (P := fun o => (o = .go () ∧ xs.findIdx? f = none) ∨ ∃ k : Nat,o = .ret (k : Int) ∧ xs.findIdx? f = some k) (loop_idx (σ := Unit) (τ := Int) xs.length (fun _ j => j) _ (fun k _ => ∀ x ∈ xs.take k,f x = false) _ ?_ ?_ () (by simp) (n := N) (by omega)) ?_ ?_
 ·intro k s hk hi
  obtain ⟨x,hx⟩ := get_of hk
  try dsimp only
  rw [if_pos (by omega),idx_nat hx,Option.bind_some,hp,Option.bind_some]
  by_cases hf : f x = true
  ·rw [if_pos hf]
   refine .inr ⟨_,rfl,.inr ⟨k,rfl,?_⟩⟩
   rw [List.findIdx?_eq_some_iff_getElem]
   obtain ⟨h1,h2⟩ := List.getElem?_eq_some_iff.1 hx
   refine ⟨h1,by rw [h2];exact hf,fun j hj => ?_⟩
   have := hi xs[j] (List.mem_take_iff_getElem.2 ⟨j,by omega,rfl⟩)
   simp [this]
  ·rw [if_neg hf,chkI_of (by omega) (by omega),Option.bind_some]
   refine .inl ⟨(),rfl,fun y hy => ?_⟩
   rcases (mem_take_succ hx).1 hy with h | rfl
   ·exact hi y h
   ·simpa using hf
 ·intro s hi
  try dsimp only
  rw [if_neg (by omega)]
  refine ⟨_,rfl,.inl ⟨rfl,?_⟩⟩
  rw [List.findIdx?_eq_none_iff]
  simpa using hi
 ·rintro x (⟨h,_⟩ | ⟨k,h,h2⟩)
  ·cases h
  ·injection h with h;rw [h,h2];rfl
 ·rintro b (⟨_,h⟩ | ⟨k,h,_⟩)
  ·rw [h];rfl
  ·cases h
/-- slices.DeleteFunc -/
theorem d32_ok {N : Nat} (hN : bigN N) (xs : List S73) (f : S73 → Bool) (p : S73 → Option Bool) (hp : ∀ x,p x = some (f x)) (hl : xs.length ≤ 140737488355328) : d32 N xs p = some (xs.filter (!f ·)) := by
 have hN' : 9223372036854775808 ≤ N := hN
 unfold d32
 rw [d47_ok hN xs p f hp hl,Option.bind_some]
 rcases find_idx xs f with ⟨h1,h2⟩ | ⟨k,a,h1,_,hk,hfa⟩
 ·rw [h1,show optI none = -1 from rfl]
  rw [if_pos (show ((-1 : Int) == -1) = true from rfl)]
  congr 1
  rw [List.filter_eq_self.2]
  intro b hb
  rw [List.findIdx?_eq_none_iff] at h1
  simp [h1 b hb]
 ·have hkl : k < xs.length := (List.getElem?_eq_some_iff.1 hk).1
  have ha : ∀ y ∈ xs.take k,f y = false := fun y hy => by
   obtain ⟨j,hj,rfl⟩ := List.mem_take_iff_getElem.1 hy
   have := (List.findIdx?_eq_some_iff_getElem.1 h1).2.2 j (by omega)
   simpa using this
  rw [h1,show optI (some k) = (k : Int) from rfl]
  rw [if_neg (by simp),chkI_of (by omega) (by omega),Option.bind_some]
  -- the state: the kept ones ahead, then what was there
  have hsplit : ∀ j,k < j → j ≤ xs.length → (xs.take j).filter (!f ·) = xs.take k ++ ((xs.take j).drop (k + 1)).filter (!f ·) := fun j h1 h2 => by
   have e : xs.take j = xs.take k ++ a :: (xs.take j).drop (k + 1) := by
    have h3 : (xs.take j)[k]? = some a := by rw [List.getElem?_take_of_lt h1];exact hk
    have h4 : (xs.take j).take k = xs.take k := by rw [List.take_take];congr 1;omega
    have h5 := List.take_append_drop k (xs.take j)
    rw [h4,List.drop_eq_getElem_cons (by rw [List.length_take];omega)] at h5
    rw [(List.getElem?_eq_some_iff.1 h3).2] at h5
    exact h5.symm
   conv => lhs;rw [e]
   rw [List.filter_append,List.filter_cons_of_neg (by simp [hfa]),List.filter_eq_self.2]
   intro b hb
   simp [ha b hb]
  obtain ⟨s,hs1,hs2⟩ := iter_fwd (σ := List S73 × Nat) (τ := List S73 × Int × Int) (ρ := List S73 × Int) (xs.length - (k + 1)) (fun s j => (s.1,(s.2 : Int),j + (k + 1 : Nat)))
   (fun ((l15,v16,v17) : ((List S73) × Int × Int)) =>
   if v17 < (l15.length : Int) then (
    (idx l15 v17).bind fun x46 =>
    (p x46).bind fun r48 =>
    if (!r48) = true then (
     (idx l15 v16).bind fun x50 =>
     letv (setI l15 v16 x46) fun l52 =>
     (chkI (v16 + 1)).bind fun v53 =>
     (chkI (v17 + 1)).bind fun v54 =>
     some (.inl (l52,v53,v54))
    ) else
    (chkI (v17 + 1)).bind fun v55 =>
    some (.inl (l15,v16,v55))
   ) else
   some (.inr (l15,v16)))
   (fun j s => s.1.length = xs.length ∧ s.2 ≤ k + j ∧ s.1.take s.2 = (xs.take (k + 1 + j)).filter (!f ·) ∧ s.1.drop (k + 1 + j) = xs.drop (k + 1 + j) ∧ s.2 = ((xs.take (k + 1 + j)).filter (!f ·)).length)
   (fun s => (s.1,(s.2 : Int)))
   (fun j s hj hI => by
    obtain ⟨l,i⟩ := s
    obtain ⟨i1,i2,i3,i4,i5⟩ := hI
    simp only at i1 i2 i3 i4 i5
    have hjl : k + 1 + j < xs.length := by omega
    obtain ⟨x,hx⟩ := get_of hjl
    have hlx : l[k + 1 + j]? = some x := by
     have := congrArg (fun l => l[0]?) i4
     simp only [List.getElem?_drop,Nat.add_zero] at this
     rw [this];exact hx
    have hdrop : ∀ (l' : List S73),l'.drop (k + 1 + j) = xs.drop (k + 1 + j) → l'.drop (k + 1 + (j + 1)) = xs.drop (k + 1 + (j + 1)) := fun l' h => by
     have := congrArg (List.drop 1) h
     simpa [List.drop_drop,Nat.add_assoc] using this
    have htk : xs.take (k + 1 + (j + 1)) = xs.take (k + 1 + j) ++ [x] := by
     rw [show k + 1 + (j + 1) = (k + 1 + j) + 1 from by omega,List.take_add_one,hx];rfl
    have e1 : ((j : Int) + ((k + 1 : Nat) : Int)) = ((k + 1 + j : Nat) : Int) := by omega
    simp only [e1]
    rw [if_pos (by rw [i1];omega),idx_nat hlx,Option.bind_some,hp,Option.bind_some]
    by_cases hxa : f x = true
    ·rw [if_neg (by simp [hxa]),chkI_of (by omega) (by omega),Option.bind_some]
     refine ⟨(l,i),?_,i1,by simp only;omega,?_,hdrop l i4,?_⟩
     ·congr 4;omega
     ·rw [htk,List.filter_append,List.filter_cons_of_neg (by simp [hxa])];simpa using i3
     ·rw [htk,List.filter_append,List.filter_cons_of_neg (by simp [hxa])];simpa using i5
    ·obtain ⟨y,hy⟩ := get_of (l := l) (k := i) (by omega)
     rw [if_pos (by simp [hxa]),idx_nat hy,Option.bind_some,letv_eq,chkI_of (by omega) (by omega),Option.bind_some,chkI_of (by omega) (by omega),Option.bind_some]
     have hset : setI l (i : Int) x = l.set i x := rfl
     rw [hset]
     refine ⟨(l.set i x,i + 1),?_,by simpa using i1,by simp only;omega,?_,?_,?_⟩
     ·congr 4;omega
     ·rw [htk,List.filter_append,List.filter_cons_of_pos (by simp [hxa]),← i3]
      simp only [List.filter_nil]
      rw [List.take_add_one,List.take_set_of_le (Nat.le_refl _),List.getElem?_set_self (by omega)]
      rfl
     ·simp only
      rw [List.drop_set_of_lt (by omega)]
      exact hdrop l i4
     ·rw [htk,List.filter_append,List.filter_cons_of_pos (by simp [hxa]),List.length_append,← i5]
      rfl)
   (fun s hI => by
    obtain ⟨l,i⟩ := s
    obtain ⟨i1,i2,i3,i4,i5⟩ := hI
    simp only at i1 ⊢
    rw [if_neg (by rw [i1];omega)])
   (xs,k) ⟨rfl,by simp,by rw [hsplit (k + 1 + 0) (by omega) (by omega)];simp,rfl,by rw [hsplit (k + 1 + 0) (by omega) (by omega)];simp;omega⟩ (n := N) (by omega)
  obtain ⟨l,i⟩ := s
  obtain ⟨i1,i2,i3,i4,i5⟩ := hs2
  have hs1' := hs1
  rw [show (((0 : Int) + ((k + 1 : Nat) : Int))) = (k : Int) + 1 from by omega] at hs1'
  simp only at hs1' i1 i2 i3 i5
  have hfull : xs.take (k + 1 + (xs.length - (k + 1))) = xs := List.take_of_length_le (by omega)
  rw [hfull] at i3 i5
  rw [hs1',Option.bind_some]
  simp only []
  have hil : i ≤ l.length := by omega
  have hpos : 0 < l.length - i := by omega
  rw [natI_nat hil,Option.bind_some,posN,if_pos hpos,Option.bind_some,letv_eq,natI_nat (by simp;omega),Option.bind_some,letv_eq]
  congr 1
  rw [List.take_append_of_le_length (by rw [List.length_take];omega),List.take_take,Nat.min_self,i3]

theorem d34_ok {N : Nat} (hN : bigN N) (xs : List S46) (p : S46 → Option Bool) (f : S46 → Bool) (hp : ∀ x,p x = some (f x)) (hl : xs.length ≤ 140737488355328) : d34 N xs p = some (optI (xs.findIdx? f)) := by
 have hN : 9223372036854775808 ≤ N := hN
 unfold d34
 refine bindO_eq (P := fun o => (o = .go () ∧ xs.findIdx? f = none) ∨ ∃ k : Nat,o = .ret (k : Int) ∧ xs.findIdx? f = some k) (loop_idx (σ := Unit) (τ := Int) xs.length (fun _ j => j) _ (fun k _ => ∀ x ∈ xs.take k,f x = false) _ ?_ ?_ () (by simp) (n := N) (by omega)) ?_ ?_
 ·intro k s hk hi
  obtain ⟨x,hx⟩ := get_of hk
  try dsimp only
  rw [if_pos (by omega),idx_nat hx,Option.bind_some,hp,Option.bind_some]
  by_cases hf : f x = true
  ·rw [if_pos hf]
   refine .inr ⟨_,rfl,.inr ⟨k,rfl,?_⟩⟩
   rw [List.findIdx?_eq_some_iff_getElem]
   obtain ⟨h1,h2⟩ := List.getElem?_eq_some_iff.1 hx
   refine ⟨h1,by rw [h2];exact hf,fun j hj => ?_⟩
   have := hi xs[j] (List.mem_take_iff_getElem.2 ⟨j,by omega,rfl⟩)
   simp [this]
  ·rw [if_neg hf,chkI_of (by omega) (by omega),Option.bind_some]
   refine .inl ⟨(),rfl,fun y hy => ?_⟩
   rcases (mem_take_succ hx).1 hy with h | rfl
   ·exact hi y h
   ·simpa using hf
 ·intro s hi
  try dsimp only
  rw [if_neg (by omega)]
  refine ⟨_,rfl,.inl ⟨rfl,?_⟩⟩
  rw [List.findIdx?_eq_none_iff]
  simpa using hi
 ·rintro x (⟨h,_⟩ | ⟨k,h,h2⟩)
  ·cases h
  ·injection h with h;rw [h,h2];rfl
 ·rintro b (⟨_,h⟩ | ⟨k,h,_⟩)
  ·rw [h];rfl
  ·cases h
/-- slices.DeleteFunc -/
theorem d15_ok {N : Nat} (hN : bigN N) (xs : List S46) (f : S46 → Bool) (p : S46 → Option Bool) (hp : ∀ x,p x = some (f x)) (hl : xs.length ≤ 140737488355328) : d15 N xs p = some (xs.filter (!f ·)) := by
 have hN' : 9223372036854775808 ≤ N := hN
 unfold d15
 rw [d34_ok hN xs p f hp hl,Option.bind_some]
 rcases find_idx xs f with ⟨h1,h2⟩ | ⟨k,a,h1,_,hk,hfa⟩
 ·rw [h1,show optI none = -1 from rfl]
  rw [if_pos (show ((-1 : Int) == -1) = true from rfl)]
  congr 1
  rw [List.filter_eq_self.2]
  intro b hb
  rw [List.findIdx?_eq_none_iff] at h1
  simp [h1 b hb]
 ·have hkl : k < xs.length := (List.getElem?_eq_some_iff.1 hk).1
  have ha : ∀ y ∈ xs.take k,f y = false := fun y hy => by
   obtain ⟨j,hj,rfl⟩ := List.mem_take_iff_getElem.1 hy
   have := (List.findIdx?_eq_some_iff_getElem.1 h1).2.2 j (by omega)
   simpa using this
  rw [h1,show optI (some k) = (k : Int) from rfl]
  rw [if_neg (by simp),chkI_of (by omega) (by omega),Option.bind_some]
  -- the state: the kept ones ahead, then what was there
  have hsplit : ∀ j,k < j → j ≤ xs.length → (xs.take j).filter (!f ·) = xs.take k ++ ((xs.take j).drop (k + 1)).filter (!f ·) := fun j h1 h2 => by
   have e : xs.take j = xs.take k ++ a :: (xs.take j).drop (k + 1) := by
    have h3 : (xs.take j)[k]? = some a := by rw [List.getElem?_take_of_lt h1];exact hk
    have h4 : (xs.take j).take k = xs.take k := by rw [List.take_take];congr 1;omega
    have h5 := List.take_append_drop k (xs.take j)
    rw [h4,List.drop_eq_getElem_cons (by rw [List.length_take];omega)] at h5
    rw [(List.getElem?_eq_some_iff.1 h3).2] at h5
    exact h5.symm
   conv => lhs;rw [e]
   rw [List.filter_append,List.filter_cons_of_neg (by simp [hfa]),List.filter_eq_self.2]
   intro b hb
   simp [ha b hb]
  obtain ⟨s,hs1,hs2⟩ := iter_fwd (σ := List S46 × Nat) (τ := List S46 × Int × Int) (ρ := List S46 × Int) (xs.length - (k + 1)) (fun s j => (s.1,(s.2 : Int),j + (k + 1 : Nat)))
   (fun ((l15,v16,v17) : ((List S46) × Int × Int)) =>
   if v17 < (l15.length : Int) then (
    (idx l15 v17).bind fun x46 =>
    (p x46).bind fun r48 =>
    if (!r48) = true then (
     (idx l15 v16).bind fun x50 =>
     letv (setI l15 v16 x46) fun l52 =>
     (chkI (v16 + 1)).bind fun v53 =>
     (chkI (v17 + 1)).bind fun v54 =>
     some (.inl (l52,v53,v54))
    ) else
    (chkI (v17 + 1)).bind fun v55 =>
    some (.inl (l15,v16,v55))
   ) else
   some (.inr (l15,v16)))
   (fun j s => s.1.length = xs.length ∧ s.2 ≤ k + j ∧ s.1.take s.2 = (xs.take (k + 1 + j)).filter (!f ·) ∧ s.1.drop (k + 1 + j) = xs.drop (k + 1 + j) ∧ s.2 = ((xs.take (k + 1 + j)).filter (!f ·)).length)
   (fun s => (s.1,(s.2 : Int)))
   (fun j s hj hI => by
    obtain ⟨l,i⟩ := s
    obtain ⟨i1,i2,i3,i4,i5⟩ := hI
    simp only at i1 i2 i3 i4 i5
    have hjl : k + 1 + j < xs.length := by omega
    obtain ⟨x,hx⟩ := get_of hjl
    have hlx : l[k + 1 + j]? = some x := by
     have := congrArg (fun l => l[0]?) i4
     simp only [List.getElem?_drop,Nat.add_zero] at this
     rw [this];exact hx
    have hdrop : ∀ (l' : List S46),l'.drop (k + 1 + j) = xs.drop (k + 1 + j) → l'.drop (k + 1 + (j + 1)) = xs.drop (k + 1 + (j + 1)) := fun l' h => by
     have := congrArg (List.drop 1) h
     simpa [List.drop_drop,Nat.add_assoc] using this
    have htk : xs.take (k + 1 + (j + 1)) = xs.take (k + 1 + j) ++ [x] := by
     rw [show k + 1 + (j + 1) = (k + 1 + j) + 1 from by omega,List.take_add_one,hx];rfl
    have e1 : ((j : Int) + ((k + 1 : Nat) : Int)) = ((k + 1 + j : Nat) : Int) := by omega
    simp only [e1]
    rw [if_pos (by rw [i1];omega),idx_nat hlx,Option.bind_some,hp,Option.bind_some]
    by_cases hxa : f x = true
    ·rw [if_neg (by simp [hxa]),chkI_of (by omega) (by omega),Option.bind_some]
     refine ⟨(l,i),?_,i1,by simp only;omega,?_,hdrop l i4,?_⟩
     ·congr 4;omega
     ·rw [htk,List.filter_append,List.filter_cons_of_neg (by simp [hxa])];simpa using i3
     ·rw [htk,List.filter_append,List.filter_cons_of_neg (by simp [hxa])];simpa using i5
    ·obtain ⟨y,hy⟩ := get_of (l := l) (k := i) (by omega)
     rw [if_pos (by simp [hxa]),idx_nat hy,Option.bind_some,letv_eq,chkI_of (by omega) (by omega),Option.bind_some,chkI_of (by omega) (by omega),Option.bind_some]
     have hset : setI l (i : Int) x = l.set i x := rfl
     rw [hset]
     refine ⟨(l.set i x,i + 1),?_,by simpa using i1,by simp only;omega,?_,?_,?_⟩
     ·congr 4;omega
     ·rw [htk,List.filter_append,List.filter_cons_of_pos (by simp [hxa]),← i3]
      simp only [List.filter_nil]
      rw [List.take_add_one,List.take_set_of_le (Nat.le_refl _),List.getElem?_set_self (by omega)]
      rfl
     ·simp only
      rw [List.drop_set_of_lt (by omega)]
      exact hdrop l i4
     ·rw [htk,List.filter_append,List.filter_cons_of_pos (by simp [hxa]),List.length_append,← i5]
      rfl)
   (fun s hI => by
    obtain ⟨l,i⟩ := s
    obtain ⟨i1,i2,i3,i4,i5⟩ := hI
    simp only at i1 ⊢
    rw [if_neg (by rw [i1];omega)])
   (xs,k) ⟨rfl,by simp,by rw [hsplit (k + 1 + 0) (by omega) (by omega)];simp,rfl,by rw [hsplit (k + 1 + 0) (by omega) (by omega)];simp;omega⟩ (n := N) (by omega)
  obtain ⟨l,i⟩ := s
  obtain ⟨i1,i2,i3,i4,i5⟩ := hs2
  have hs1' := hs1
  rw [show (((0 : Int) + ((k + 1 : Nat) : Int))) = (k : Int) + 1 from by omega] at hs1'
  simp only at hs1' i1 i2 i3 i5
  have hfull : xs.take (k + 1 + (xs.length - (k + 1))) = xs := List.take_of_length_le (by omega)
  rw [hfull] at i3 i5
  rw [hs1',Option.bind_some]
  simp only []
  have hil : i ≤ l.length := by omega
  have hpos : 0 < l.length - i := by omega
  rw [natI_nat hil,Option.bind_some,posN,if_pos hpos,Option.bind_some,letv_eq,natI_nat (by simp;omega),Option.bind_some,letv_eq]
  congr 1
  rw [List.take_append_of_le_length (by rw [List.length_take];omega),List.take_take,Nat.min_self,i3]

end Go.Proofs.Ytfdhaigfonolpaa
end
section
namespace Go.Proofs.Ytfdhaigfonolpaa
open Go.Ab Go.Rp

structure Inv (R : List S76) (F : List Int) (B : List S64) (C : List S73) (e : Int) (B' : List S35) (C' : List S46) (e' : Int) : Prop where
 eE : e' = e
 eC : C' = C.map toM
 hB : All2 (BR R) B B'
 lF : F.length = R.length
 hF : ∀ i,i < R.length → F[i]? = some ((cnt B i : Nat) : Int)
 inj : ∀ i j x,0 < cnt B i → 0 < cnt B j → R[i]? = some x → R[j]? = some x → i = j
 ne : B ≠ []
 h0 : ∀ b,B[0]? = some b → b.time = e
 he : 0 ≤ e
 sB : B.Pairwise fun x y => x.time < y.time
 sC : C.Pairwise fun x y => x.time < y.time
 lB : B.length ≤ 20
 lC : C.length ≤ 200
 lR : R.length ≤ 900
 hc : ∀ c ∈ C,c.key.size ≤ 24 ∧ c.row.length ≤ 6
theorem low_of {R : List S76} {B : List S64} {B' : List S35} (hB : All2 (BR R) B B') {i : Nat} (hi : 0 < cnt B i) : i < R.length := by
 obtain ⟨b,hb,h⟩ := cnt_pos.1 hi
 obtain ⟨b',_,_,st,h1,_⟩ := hB.mem b hb
 obtain ⟨x,_,h2⟩ := h1.mem _ h
 have := h2.2
 rw [Int.toNat_natCast] at this
 exact (List.getElem?_eq_some_iff.1 this).1
theorem cnt_le {R : List S76} {B : List S64} {B' : List S35} (hB : All2 (BR R) B B') (i : Nat) : cnt B i ≤ 40 * B.length := Nat.le_trans List.count_le_length (flat_len hB)
theorem BR.mono {R R' : List S76} {b : S64} {b' : S35} (h : BR R b b') (hk : ∀ i : Nat,(i : Int) ∈ b.records → ∀ x,R[i]? = some x → R'[i]? = some x) : BR R' b b' := by
 obtain ⟨h1,st,h2,h3⟩ := h
 refine ⟨h1,st,h2.imp fun a ha x hx hax => ?_,h3⟩
 obtain ⟨n,rfl,hn⟩ := hax.nat
 exact At.of (hk n ha x hn)
theorem times_eq {R : List S76} : ∀ {B : List S64} {B' : List S35},All2 (BR R) B B' → B'.map (·.Time) = B.map (·.time)
 | [],[],_ => rfl
 | b :: B,b' :: B',h => by
  have e : b.time = b'.Time := h.1.1
  rw [List.map_cons,List.map_cons,times_eq h.2,e]
 | [],_ :: _,h => h.elim
 | _ :: _,[],h => h.elim

open Classical in
noncomputable def newN (R : List S76) (B : List S64) (l : List S76) : Nat := (l.filter fun x => decide (¬ Old R B x)).length
theorem newN_old {R : List S76} {B : List S64} {l : List S76} {x : S76} (h : Old R B x) : newN R B (l ++ [x]) = newN R B l := by
 unfold newN
 rw [List.filter_append,List.filter_cons_of_neg (by simp [h]),List.filter_nil,List.append_nil]
theorem newN_new {R : List S76} {B : List S64} {l : List S76} {x : S76} (h : ¬ Old R B x) : newN R B (l ++ [x]) = newN R B l + 1 := by
 unfold newN
 rw [List.filter_append,List.filter_cons_of_pos (by simp [h]),List.filter_nil,List.length_append,List.length_singleton]
theorem newN_le {R : List S76} {B : List S64} {l : List S76} : newN R B l ≤ l.length := List.length_filter_le _ _

def stepF (N : Nat) (B0 : List S64) (C : List S73) (e : Int) (st : List S76) : ((List S76) × (List Int) × (List Int) × Int × Int) → Option (((List S76) × (List Int) × (List Int) × Int × Int) ⊕ ((List S76) × (List Int) × (List Int) × Int)) := fun (l50,l51,l52,v53,v54) =>
   if v54 < (st.length : Int) then (
    (idx st v54).bind fun x153 =>
    (d25 N (S68.mk l50 l51 B0 C e) x153).bind fun r155 =>
    Option.bind (α := ((List S76) × (List Int) × Int × Int)) (
     if r155 < 0 then (
      (chkI (v53 + 1)).bind fun v176 =>
      (d26 N l51 0).bind fun r177 =>
      Option.bind (α := ((List S76) × (List Int) × Int)) (
       if r177 < 0 then (
        (appL 40 l50 [(S76.mk (ByteArray.mk #[]) ([] : List S71))]).bind fun _l185 =>
        (appL 8 l51 [0]).bind fun _l186 =>
        some ((l50 ++ [(S76.mk (ByteArray.mk #[]) ([] : List S71))]),(l51 ++ [0]),(l51.length : Int))
       ) else
       some (l50,l51,r177)
      ) fun ((l181,l182,v183) : ((List S76) × (List Int) × Int)) =>
      (idx l181 v183).bind fun _x187 =>
      letv (setI l181 v183 x153) fun l189 =>
      some (l189,l182,v176,v183)
     ) else
     some (l50,l51,v53,r155)
    ) fun ((l171,l172,v173,v174) : ((List S76) × (List Int) × Int × Int)) =>
    (idx l172 v174).bind fun x190 =>
    (chkI (x190 + 1)).bind fun v192 =>
    letv (setI l172 v174 v192) fun l193 =>
    (appL 8 l52 [v174]).bind fun _l194 =>
    (chkI (v54 + 1)).bind fun v195 =>
    some (.inl (l171,l193,(l52 ++ [v174]),v173,v195))
   ) else
   some (.inr (l50,l51,l52,v53))
theorem stepF_tail (R : List S76) (F : List Int) (recs : List Int) (v : Int) (i k : Nat) (x : Int) (hx : F[i]? = some x) (h0 : 0 ≤ x) (h1 : x ≤ 1000) (hr : recs.length ≤ 100) (hk : k ≤ 100) :
  ((idx F (i : Int)).bind fun x190 =>
    (chkI (x190 + 1)).bind fun v192 =>
    letv (setI F (i : Int) v192) fun l193 =>
    (appL 8 recs [(i : Int)]).bind fun _l194 =>
    (chkI ((k : Int) + 1)).bind fun v195 =>
    some (Sum.inl (β := ((List S76) × (List Int) × (List Int) × Int)) (R,l193,(recs ++ [(i : Int)]),v,v195))) = some (.inl (R,F.set i (x + 1),recs ++ [(i : Int)],v,(k : Int) + 1)) := by
 rw [idx_nat hx,Option.bind_some,chkI_of (by omega) (by omega),Option.bind_some,letv_eq,setI_nat]
 unfold appL
 rw [if_pos (by show _ ≤ 140737488355328;simp;omega),Option.bind_some,chkI_of (by omega) (by omega),Option.bind_some]
theorem fb_loop {N : Nat} (hN : bigN N) {R : List S76} {F : List Int} {B : List S64} {C : List S73} {e e' : Int} {B' : List S35} {C' : List S46} (I : Inv R F B C e B' C' e') {st : List S76} (hs : Srt st) (hl : st.length ≤ 40) (hsm : ∀ x ∈ st,small x) :
  ∃ r,iterN (stepF N B C e st) N (R,F,[],0,0) = some r ∧ FI R B st st.length r.1 r.2.1 r.2.2.1 ∧ r.2.2.2 = (newN R B st : Int) ∧ r.1.length ≤ 900 := by
 have hN' : 9223372036854775808 ≤ N := hN
 refine loop_idx (σ := (List S76) × (List Int) × (List Int) × Int) st.length (fun s k => (s.1,s.2.1,s.2.2.1,s.2.2.2,k)) (stepF N B C e st)
  (fun k s => FI R B st k s.1 s.2.1 s.2.2.1 ∧ s.2.2.2 = (newN R B (st.take k) : Int) ∧ s.1.length ≤ 900) _ ?_ ?_ (R,F,[],0)
  ⟨⟨I.lF,fun i hi => by rw [I.hF i hi];simp,trivial,fun _ _ => rfl,fun i hi => low_of I.hB hi,fun i j x hi hj => I.inj i j x (by simpa using hi) (by simpa using hj)⟩,rfl,I.lR⟩ (by omega)
 ·rintro k ⟨R1,F1,recs,v⟩ hk ⟨fi,hv,hR⟩
  dsimp only at fi hv hR
  obtain ⟨x,hx⟩ := get_of hk
  have hxs := hsm x (List.mem_of_getElem? hx)
  have hfr : x ∉ st.take k := fun h => by
   obtain ⟨j,hj,rfl⟩ := List.mem_take_iff_getElem.1 h
   exact klt_irrefl _ (hs.get (i := j) (j := k) (by omega) (List.getElem?_eq_getElem (by omega)) hx)
  have htk : st.take (k + 1) = st.take k ++ [x] := by rw [List.take_add_one,hx];rfl
  have hrl : recs.length = k := by rw [fi.ats.len,List.length_take];omega
  have hnl : newN R B (st.take k) ≤ k := Nat.le_trans newN_le (by rw [List.length_take];omega)
  left
  unfold stepF
  dsimp only
  rw [if_pos (by omega),idx_nat hx,Option.bind_some]
  rcases d25_ok hN (B := B) (C := C) (e := e) fi.lF (by omega) hxs with ⟨i,h1,h2,w,h3,h4⟩ | ⟨h1,h2⟩
  ·rw [h1,Option.bind_some,if_neg (by omega),Option.bind_some]
   dsimp only
   obtain ⟨g1,g2⟩ := fi.found hx hfr h2 h3 h4
   have hw := fi.hF i (List.getElem?_eq_some_iff.1 h2).1
   rw [h3] at hw
   injection hw with hw
   have c1 := cnt_le I.hB i
   have c2 : recs.count (i : Int) ≤ recs.length := List.count_le_length
   have := I.lB
   rw [stepF_tail R1 F1 recs v i k w h3 (by omega) (by omega) (by omega) (by omega)]
   exact ⟨(R1,F1.set i (w + 1),recs ++ [(i : Int)],v),rfl,g2,by rw [htk,newN_old g1];exact hv,hR⟩
  ·rw [h1,Option.bind_some,if_pos (by omega),chkI_of (by omega) (by omega),Option.bind_some]
   rcases d26_ok hN (F := F1) (by rw [fi.lF];omega) with ⟨i,q1,q2⟩ | ⟨q1,q2⟩
   ·rw [q1,Option.bind_some,if_neg (by omega),Option.bind_some]
    dsimp only
    have hil : i < R1.length := by rw [← fi.lF];exact (List.getElem?_eq_some_iff.1 q2).1
    obtain ⟨y,hy⟩ := get_of hil
    obtain ⟨g1,g2⟩ := fi.put hx h2 q2
    rw [idx_nat hy,Option.bind_some,letv_eq,setI_nat,Option.bind_some]
    dsimp only
    rw [stepF_tail (R1.set i x) F1 recs (v + 1) i k 0 q2 (by omega) (by omega) (by omega) (by omega)]
    exact ⟨(R1.set i x,F1.set i 1,recs ++ [(i : Int)],v + 1),rfl,g2,by rw [htk,newN_new g1,hv];rfl,by dsimp only;rw [List.length_set];exact hR⟩
   ·have hfull := fi.full I.hB I.lB hl q2
    rw [q1,Option.bind_some,if_pos (by omega)]
    unfold appL
    rw [if_pos (by show _ ≤ 140737488355328;simp;omega),Option.bind_some,if_pos (by show _ ≤ 140737488355328;simp;have := fi.lF;omega),Option.bind_some,Option.bind_some]
    dsimp only
    have fi2 := fi.room (S76.mk (ByteArray.mk #[]) ([] : List S71))
    have q3 : (F1 ++ [0])[F1.length]? = some 0 := by simp
    have hno : ∀ (i : Nat) (v : Int),(F1 ++ [0])[i]? = some v → 0 < v → (R1 ++ [S76.mk (ByteArray.mk #[]) ([] : List S71)])[i]? ≠ some x := fun i v hv hp => by
     have hi : i < F1.length := by
      rcases Nat.lt_or_ge i F1.length with h | h
      ·exact h
      ·obtain ⟨h5,_⟩ := List.getElem?_eq_some_iff.1 hv
       rw [List.length_append,List.length_singleton] at h5
       obtain rfl : i = F1.length := by omega
       rw [q3] at hv
       injection hv with hv
       omega
     rw [List.getElem?_append_left hi] at hv
     rw [List.getElem?_append_left (by rw [← fi.lF];exact hi)]
     exact h2 i v hv hp
    obtain ⟨g1,g2⟩ := fi2.put hx hno q3
    obtain ⟨y,hy⟩ := get_of (l := R1 ++ [S76.mk (ByteArray.mk #[]) ([] : List S71)]) (k := F1.length) (by rw [fi.lF];simp)
    rw [idx_nat hy,Option.bind_some,letv_eq,setI_nat,Option.bind_some]
    dsimp only
    have tl := stepF_tail ((R1 ++ [S76.mk (ByteArray.mk #[]) ([] : List S71)]).set F1.length x) (F1 ++ [0]) recs (v + 1) F1.length k 0 q3 (by omega) (by omega) (by omega) (by omega)
    unfold appL at tl
    rw [tl]
    exact ⟨((R1 ++ [S76.mk (ByteArray.mk #[]) ([] : List S71)]).set F1.length x,(F1 ++ [0]).set F1.length 1,recs ++ [(F1.length : Int)],v + 1),rfl,g2,by rw [htk,newN_new g1,hv];rfl,by dsimp only;rw [List.length_set,List.length_append,List.length_singleton];omega⟩
 ·rintro ⟨R1,F1,recs,v⟩ ⟨fi,hv,hR⟩
  unfold stepF
  dsimp only
  rw [if_neg (by omega)]
  rw [List.take_length] at hv
  exact ⟨_,rfl,fi,hv,hR⟩

/-- FullBackup, behind its tests -/
theorem d11_ok {N : Nat} (hN : bigN N) {R : List S76} {F : List Int} {B : List S64} {C : List S73} {e e' : Int} {B' : List S35} {C' : List S46} (I : Inv R F B C e B' C' e') {t v : Int} (hv : IsLat v (B.map (·.time)) (C.map (·.time))) (ht : v < t) (ht2 : t ≤ 1099511627776) (hl : B.length < 20) {m : List KV} (hm : RepM m (PM t B' C')) :
  if m.length > 40 then d11 N (S68.mk R F B C e) t = some (S68.mk R F B C e,0,18) else
  ∃ R1 F1 recs st,d11 N (S68.mk R F B C e) t = some (S68.mk R1 F1 (B ++ [S64.mk t recs]) C e,(newN R B st : Int),0) ∧ (st.map fun x => (x.Key,x.Row)).Perm m ∧ (∀ x ∈ st,small x) ∧ Inv R1 F1 (B ++ [S64.mk t recs]) C e (B' ++ [S35.mk t m]) C' e' := by
 have hN' : 9223372036854775808 ≤ N := hN
 obtain ⟨v',hv1,hv2⟩ := d23_ok (N := N) (R := R) (F := F) (e := e) I.ne (by have := I.lB;omega) (by have := I.lC;omega) I.sB I.sC
 obtain rfl := hv2.uniq hv
 have het : e ≤ t := by
  obtain ⟨b,hb⟩ := get_of (l := B) (k := 0) (List.length_pos_iff.2 I.ne)
  have := I.h0 b hb
  have := hv2.1 b.time (List.mem_map.2 ⟨b,List.mem_of_getElem? hb,rfl⟩)
  omega
 obtain ⟨st,hs1,hs2,hs3,hs4⟩ := d18_ok hN (F := F) I.hB (by have := I.lB;omega) (by have := I.lC;omega) I.ne I.h0 I.hc het
 rw [← I.eC] at hs2
 have hperm := rep_len hs2 hm
 have hlen : st.length = m.length := by rw [← hperm.length_eq,List.length_map]
 have head : d11 N (S68.mk R F B C e) t = (if (st.length : Int) > 40 then some (S68.mk R F B C e,(0 : Int),(18 : Int)) else
   Option.bind (α := ((List S76) × (List Int) × (List Int) × Int)) (iterN (stepF N B C e st) N (R,F,[],0,0)) fun ((l148,l149,l150,v151) : ((List S76) × (List Int) × (List Int) × Int)) =>
   (appL 32 B [(S64.mk t l150)]).bind fun l196 =>
   some ((S68.mk l148 l149 (B ++ [(S64.mk t l150)]) C e),v151,(0 : Int))) := by
  unfold d11
  rw [hv1,Option.bind_some,if_neg (by omega),if_neg (by omega),if_neg (by simp;omega),hs1,Option.bind_some]
  rfl
 rw [head]
 by_cases h40 : m.length > 40
 ·rw [if_pos h40,if_pos (by omega)]
 ·rw [if_neg h40,if_neg (by omega)]
  obtain ⟨⟨R1,F1,recs,w⟩,h1,fi,hw,hR⟩ := fb_loop hN I hs2.1 (by omega) hs4
  dsimp only at fi hw hR
  rw [h1,Option.bind_some]
  dsimp only
  unfold appL
  rw [if_pos (by show _ ≤ 140737488355328;simp;omega),Option.bind_some,hw]
  refine ⟨R1,F1,recs,st,rfl,hperm,hs4,?_⟩
  have hats := fi.ats
  rw [List.take_length] at hats
  have hcnt : ∀ i,cnt (B ++ [S64.mk t recs]) i = cnt B i + recs.count (i : Int) := fun i => cnt_append B _ i
  refine ⟨I.eE,I.eC,All2.app (l' := [S64.mk t recs]) (m' := [S35.mk t m]) ⟨⟨rfl,st,hats,by omega,hs4,hm.1,hs2.1,fun x => (hs2.2 x).trans (hm.2 x.Key x.Row).symm⟩,trivial⟩ (I.hB.imp fun b hb b' _ hbb => hbb.mono fun i hi x hx => ?_),fi.lF,fun i hi => ?_,fun i j x hi hj => ?_,by simp,fun b hb => ?_,I.he,?_,I.sC,by simp;omega,I.lC,hR,I.hc⟩
  ·rw [fi.keep i (cnt_pos.2 ⟨b,hb,hi⟩)];exact hx
  ·rw [fi.hF i hi,hcnt]
  ·rw [hcnt] at hi hj
   exact fi.inj i j x hi hj
  ·rw [List.getElem?_append_left (List.length_pos_iff.2 I.ne)] at hb
   exact I.h0 b hb
  ·refine List.pairwise_append.2 ⟨I.sB,by simp,fun x hx y hy => ?_⟩
   rw [List.mem_singleton] at hy
   rw [hy]
   have := hv2.1 x.time (List.mem_map.2 ⟨x,hx,rfl⟩)
   show x.time < t
   omega
end Go.Proofs.Ytfdhaigfonolpaa
end
section
namespace Go.Proofs.Ytfdhaigfonolpaa
open Go.Ab Go.Rp

def kvM (c : S46) : KV := (c.Key,c.Row)
theorem any_kv {l : List S46} {x : KV} : l.any (fun c => eqD c x) = true ↔ x ∈ l.map kvM := by
 rw [List.any_eq_true,List.mem_map]
 constructor
 ·rintro ⟨c,h1,h2⟩
  exact ⟨c,h1,Prod.ext ((eqD_iff c x).1 h2).1 ((eqD_iff c x).1 h2).2⟩
 ·rintro ⟨c,h1,rfl⟩
  exact ⟨c,h1,(eqD_iff c _).2 ⟨rfl,rfl⟩⟩
theorem fold_spec : ∀ (xs : List KV) (l : List S46),(l.map kvM).Nodup → ((xs.foldl addD l).map kvM).Nodup ∧ (∀ x,x ∈ (xs.foldl addD l).map kvM ↔ x ∈ l.map kvM ∨ x ∈ xs) ∧ (xs.foldl addD l).length ≤ l.length + xs.length
 | [],l,h => ⟨h,by simp,by simp⟩
 | y :: xs,l,h => by
  have hy : ((addD l y).map kvM).Nodup ∧ (∀ x,x ∈ (addD l y).map kvM ↔ x ∈ l.map kvM ∨ x = y) := by
   unfold addD
   by_cases e : l.any (fun c => eqD c y) = true
   ·rw [if_pos e]
    refine ⟨h,fun x => ⟨.inl,fun h => h.elim id fun h => by rw [h];exact any_kv.1 e⟩⟩
   ·rw [if_neg e,List.map_append]
    refine ⟨List.nodup_append.2 ⟨h,by simp,fun a ha b hb => ?_⟩,fun x => ?_⟩
    ·simp [kvM] at hb
     rw [hb]
     exact fun h => e (any_kv.2 (by rw [h] at ha;exact ha))
    ·simp [kvM]
  obtain ⟨h1,h2,h3⟩ := fold_spec xs (addD l y) hy.1
  refine ⟨h1,fun x => ?_,?_⟩
  ·rw [List.foldl_cons,h2,hy.2,List.mem_cons,or_assoc]
  ·have := addD_len l y
   rw [List.foldl_cons,List.length_cons];omega
noncomputable def dis (B : List S35) (l : List S46) : List S46 := B.foldl (fun l b => b.State.foldl addD l) l
theorem dis_spec : ∀ (B : List S35) (l : List S46),(l.map kvM).Nodup → ((dis B l).map kvM).Nodup ∧ (∀ x,x ∈ (dis B l).map kvM ↔ x ∈ l.map kvM ∨ ∃ b ∈ B,x ∈ b.State)
 | [],l,h => ⟨h,by simp [dis]⟩
 | b :: B,l,h => by
  obtain ⟨g1,g2,_⟩ := fold_spec b.State l h
  obtain ⟨h1,h2⟩ := dis_spec B (b.State.foldl addD l) g1
  refine ⟨h1,fun x => ?_⟩
  show x ∈ (dis B (b.State.foldl addD l)).map kvM ↔ _
  rw [h2,g2]
  simp [or_assoc]
theorem d27_ok {N : Nat} (hN : bigN N) {B : List S35} {C : List S46} {e : Int} (hl : B.length ≤ 100) (hs : ∀ b ∈ B,b.State.length ≤ 40 ∧ ∀ x ∈ b.State,x.2.length ≤ 6) :
  d27 N (S39.mk B C e) = some (S39.mk B C e,dis B []) ∧ (dis B []).length ≤ 4000 := by
 have hN' : 9223372036854775808 ≤ N := hN
 have main : ∃ r,d27 N (S39.mk B C e) = some r ∧ (r.1 = S39.mk B C e ∧ r.2 = dis B [] ∧ r.2.length ≤ 4000) := by
  unfold d27
  refine bind_ex (P := fun l => l = dis B [] ∧ l.length ≤ 4000) (loop_idx (σ := List S46) B.length (fun l k => (l,k)) _ (fun k l => l = dis (B.take k) [] ∧ l.length ≤ 40 * k) _ ?_ ?_ [] ⟨rfl,by simp⟩ (n := N) (by omega)) ?_
  ·rintro k l hk ⟨rfl,hi⟩
   obtain ⟨b,hb⟩ := get_of hk
   obtain ⟨g1,g2⟩ := hs b (List.mem_of_getElem? hb)
   dsimp only
   rw [if_pos (by omega),idx_nat hb,Option.bind_some]
   have ha : addS N b.State (dis (B.take k) []) = some (b.State.foldl addD (dis (B.take k) [])) := by
    unfold addS
    rw [if_pos]
    refine ⟨by show _ ≤ 140737488355328;omega,by omega,fun x hx => ⟨by have := g2 x hx;omega,by have := g2 x hx;omega⟩⟩
   rw [ha,Option.bind_some,chkI_of (by omega) (by omega),Option.bind_some]
   left
   refine ⟨_,rfl,?_,?_⟩
   ·unfold dis;rw [List.take_add_one,hb,List.foldl_append];rfl
   ·have fl : ∀ (xs : List KV) (l : List S46),(xs.foldl addD l).length ≤ l.length + xs.length := by
     intro xs
     induction xs with
     | nil => intro l;simp
     | cons x xs ih => intro l;have := ih (addD l x);have := addD_len l x;rw [List.foldl_cons,List.length_cons];omega
    have := fl b.State (dis (B.take k) [])
    omega
  ·rintro l ⟨rfl,hi⟩
   dsimp only
   rw [if_neg (by omega)]
   rw [List.take_length] at hi ⊢
   exact ⟨_,rfl,rfl,by omega⟩
  ·rintro l ⟨rfl,hl⟩
   exact ⟨_,rfl,rfl,rfl,hl⟩
 obtain ⟨⟨a,l⟩,h1,h2,h3,h4⟩ := main
 dsimp only at h2 h3 h4
 subst h2 h3
 exact ⟨h1,h4⟩

/-! ### the same for the archive -/
theorem states_of {R : List S76} {B : List S64} {B' : List S35} (h : All2 (BR R) B B') : ∀ b ∈ B',b.State.length ≤ 40 ∧ (b.State.map Prod.fst).Nodup ∧ ∀ x ∈ b.State,x.2.length ≤ 6 ∧ x.1.size ≤ 24 := fun b hb => by
 obtain ⟨a,_,_,st,h1,h2,h3,h4,h5⟩ := h.mem2 b hb
 have hp := rep_len h5 (⟨h4,fun _ _ => Iff.rfl⟩ : RepM b.State _)
 refine ⟨by rw [← hp.length_eq,List.length_map];exact h2,h4,fun x hx => ?_⟩
 obtain ⟨y,hy,rfl⟩ := List.mem_map.1 (hp.mem_iff.2 hx)
 exact ⟨(h3 y hy).2,(h3 y hy).1⟩
theorem old_iff {R : List S76} {B : List S64} {B' : List S35} (h : All2 (BR R) B B') (x : S76) : Old R B x ↔ ∃ b ∈ B',(x.Key,x.Row) ∈ b.State := by
 constructor
 ·rintro ⟨i,hi,hx⟩
  obtain ⟨b,hb,hm⟩ := cnt_pos.1 hi
  obtain ⟨b',hb',_,st,h1,h2,h3,h4,h5⟩ := h.mem b hb
  obtain ⟨y,hy,hat⟩ := h1.mem _ hm
  have := hat.2
  rw [Int.toNat_natCast,hx] at this
  injection this with this
  exact ⟨b',hb',(h5.2 x).1 (this ▸ hy)⟩
 ·rintro ⟨b',hb',hx⟩
  obtain ⟨b,hb,_,st,h1,h2,h3,h4,h5⟩ := h.mem2 b' hb'
  obtain ⟨i,hi,hat⟩ := h1.mem2 x ((h5.2 x).2 hx)
  obtain ⟨n,rfl,hn⟩ := hat.nat
  exact ⟨n,cnt_pos.2 ⟨b,hb,hi⟩,hn⟩
theorem old_dis {R : List S76} {B : List S64} {B' : List S35} (h : All2 (BR R) B B') (x : S76) : (dis B' []).any (fun c => eqD c (x.Key,x.Row)) = true ↔ Old R B x := by
 rw [any_kv,(dis_spec B' [] (by simp)).2,old_iff h]
 simp
theorem d13_ok {N : Nat} (hN : bigN N) {R : List S76} {F : List Int} {B : List S64} {C : List S73} {e e' : Int} {B' : List S35} {C' : List S46} (I : Inv R F B C e B' C' e') {st : List S76} {m : List KV} (hp : (st.map fun x => (x.Key,x.Row)).Perm m) (hs : ∀ x ∈ st,small x) (hm : m.length ≤ 1000) :
  d13 N (S39.mk B' C' e') m = some (S39.mk B' C' e',(newN R B st : Int)) := by
 have hN' : 9223372036854775808 ≤ N := hN
 have hst := states_of I.hB
 obtain ⟨h1,h2⟩ := d27_ok hN (B := B') (C := C') (e := e') (by have := I.lB;have := I.hB.len;omega) (fun b hb => ⟨(hst b hb).1,fun x hx => ((hst b hb).2.2 x hx).1⟩)
 unfold d13
 rw [h1,Option.bind_some]
 have hg : (dis B' []).length < N ∧ (dis B' []).length ≤ 9223372036854775807 ∧ m.length ≤ 9223372036854775807 ∧ ∀ x ∈ m,rowOK N x.2 := ⟨by omega,by omega,by omega,fun x hx => by
  obtain ⟨y,hy,rfl⟩ := List.mem_map.1 (hp.mem_iff.2 hx)
  have := (hs y hy).2
  exact ⟨by dsimp only;omega,by dsimp only;omega⟩⟩
 have hc : cntS N (dis B' []) m = some (newN R B st : Int) := by
  unfold cntS
  rw [if_pos hg]
  congr 2
  rw [← (hp.filter _).length_eq,List.filter_map,List.length_map]
  unfold newN
  congr 2
  funext x
  show (!(dis B' []).any fun c => eqD c (x.Key,x.Row)) = _
  have := old_dis I.hB x
  by_cases h : Old R B x
  ·rw [this.2 h];simp [h]
  ·rw [Bool.eq_false_iff.2 fun hh => h (this.1 hh)];simp [h]
 dsimp only
 rw [hc];rfl
def kvR (R : List S76) (i : Nat) : KV := match R[i]? with
 | some x => (x.Key,x.Row)
 | none => (ByteArray.mk #[],[])
def posL (R : List S76) (B : List S64) : List Nat := (List.range R.length).filter fun i => decide (0 < cnt B i)
theorem pos_dis {R : List S76} {F : List Int} {B : List S64} {C : List S73} {e e' : Int} {B' : List S35} {C' : List S46} (I : Inv R F B C e B' C' e') : (posL R B).length = (dis B' []).length := by
 have hd := dis_spec B' [] (by simp)
 have : ((posL R B).map (kvR R)).Perm ((dis B' []).map kvM) := by
  have hget : ∀ i,i ∈ posL R B ↔ 0 < cnt B i := fun i => by
   unfold posL
   rw [List.mem_filter,List.mem_range]
   exact ⟨fun h => of_decide_eq_true h.2,fun h => ⟨low_of I.hB h,decide_eq_true h⟩⟩
  refine (List.perm_ext_iff_of_nodup ?_ hd.1).2 fun x => ?_
  ·refine List.pairwise_map.2 ?_
   refine List.Pairwise.imp_of_mem (R := fun i j => i ≠ j) (fun {i j} hi hj hne h => ?_) (List.nodup_range.filter _)
   have ci := (hget i).1 hi
   have cj := (hget j).1 hj
   obtain ⟨x,hx⟩ := get_of (low_of I.hB ci)
   obtain ⟨y,hy⟩ := get_of (low_of I.hB cj)
   unfold kvR at h
   rw [hx,hy] at h
   injection h with h1 h2
   have : x = y := by cases x;cases y;simp only at h1 h2;rw [h1,h2]
   exact hne (I.inj i j x ci cj hx (this ▸ hy))
  ·rw [hd.2,List.mem_map]
   constructor
   ·rintro ⟨i,hi,rfl⟩
    have ci := (hget i).1 hi
    obtain ⟨y,hy⟩ := get_of (low_of I.hB ci)
    right
    unfold kvR
    rw [hy]
    exact (old_iff I.hB y).1 ⟨i,ci,hy⟩
   ·rintro (h | h)
    ·simp at h
    ·obtain ⟨k,r⟩ := x
     obtain ⟨i,ci,hi⟩ := (old_iff I.hB ⟨k,r⟩).2 h
     exact ⟨i,(hget i).2 ci,by unfold kvR;rw [hi]⟩
 have := this.length_eq
 rwa [List.length_map,List.length_map] at this
theorem d22_ok {N : Nat} (hN : bigN N) {R : List S76} {F : List Int} {B : List S64} {C : List S73} {e e' : Int} {B' : List S35} {C' : List S46} (I : Inv R F B C e B' C' e') :
  d22 N (S39.mk B' C' e') = some (S39.mk B' C' e',((posL R B).length : Int)) := by
 have hst := states_of I.hB
 obtain ⟨h1,h2⟩ := d27_ok hN (B := B') (C := C') (e := e') (by have := I.lB;have := I.hB.len;omega) (fun b hb => ⟨(hst b hb).1,fun x hx => ((hst b hb).2.2 x hx).1⟩)
 unfold d22
 rw [h1,Option.bind_some,pos_dis I]
theorem d21_ok {N : Nat} (hN : bigN N) {R : List S76} {F : List Int} {B : List S64} {C : List S73} {e e' : Int} {B' : List S35} {C' : List S46} (I : Inv R F B C e B' C' e') :
  d21 N (S68.mk R F B C e) = some ((B.length : Int),((posL R B).length : Int),(C.length : Int)) := by
 have hN' : 9223372036854775808 ≤ N := hN
 have hF : F = (List.range R.length).map fun i => ((cnt B i : Nat) : Int) := by
  refine List.ext_getElem? fun i => ?_
  by_cases hi : i < R.length
  ·rw [I.hF i hi,List.getElem?_map,List.getElem?_range hi];rfl
  ·rw [List.getElem?_eq_none (by rw [I.lF];omega),List.getElem?_eq_none (by simp;omega)]
 have hcount : (F.filter fun x => decide (0 < x)).length = (posL R B).length := by
  rw [hF,List.filter_map,List.length_map]
  unfold posL
  congr 1
  refine List.filter_congr fun i _ => ?_
  show decide ((0 : Int) < ((cnt B i : Nat) : Int)) = _
  rw [Bool.eq_iff_iff,decide_eq_true_eq,decide_eq_true_eq]
  omega
 have hfl : F.length ≤ 900 := by rw [I.lF];exact I.lR
 unfold d21
 have loop : iterN (σ := (Int × Int)) (ρ := Int) (fun ((v7,v8) : (Int × Int)) =>
   if v8 < (F.length : Int) then (
    (idx F v8).bind fun x27 =>
    if x27 > 0 then (
     (chkI (v7 + 1)).bind fun v30 =>
     (chkI (v8 + 1)).bind fun v31 =>
     some (.inl (v30,v31))
    ) else
    (chkI (v8 + 1)).bind fun v32 =>
    some (.inl (v7,v32))
   ) else
   some (.inr v7)) N (0,0) = some ((F.filter fun x => decide (0 < x)).length : Int) := by
  obtain ⟨r,h1,h2⟩ := loop_idx (σ := Int) F.length (fun s k => (s,k)) (fun ((v7,v8) : (Int × Int)) =>
   if v8 < (F.length : Int) then (
    (idx F v8).bind fun x27 =>
    if x27 > 0 then (
     (chkI (v7 + 1)).bind fun v30 =>
     (chkI (v8 + 1)).bind fun v31 =>
     some (Sum.inl (v30,v31))
    ) else
    (chkI (v8 + 1)).bind fun v32 =>
    some (Sum.inl (v7,v32))
   ) else
   some (Sum.inr v7)) (fun k s => s = (((F.take k).filter fun x => decide (0 < x)).length : Int)) (fun r => r = ((F.filter fun x => decide (0 < x)).length : Int)) (by
   rintro k s hk rfl
   obtain ⟨x,hx⟩ := get_of hk
   have hle : ((F.take k).filter fun x => decide (0 < x)).length ≤ k := Nat.le_trans (List.length_filter_le _ _) (by rw [List.length_take];omega)
   dsimp only
   rw [if_pos (by omega),idx_nat hx,Option.bind_some,List.take_add_one,hx,List.filter_append]
   left
   by_cases h : x > 0
   ·rw [if_pos h,chkI_of (by omega) (by omega),Option.bind_some,chkI_of (by omega) (by omega),Option.bind_some]
    refine ⟨_,rfl,?_⟩
    simp [h]
   ·rw [if_neg h,chkI_of (by omega) (by omega),Option.bind_some]
    refine ⟨_,rfl,?_⟩
    simp [h]) (by
   rintro s rfl
   dsimp only
   rw [if_neg (by omega)]
   rw [List.take_length]
   exact ⟨_,rfl,rfl⟩) 0 (by simp) (n := N) (by omega)
  rw [h1,h2]
 dsimp only
 rw [loop,Option.bind_some,hcount]
end Go.Proofs.Ytfdhaigfonolpaa
end
section
namespace Go.Proofs.Ytfdhaigfonolpaa
open Go.Ab Go.Rp

/-- how many backups go -/
def Pr (tb : List Int) (t : Int) (n : Nat) : Prop := n < tb.length ∧ (∀ j,j < n → ∃ x,tb[j + 1]? = some x ∧ x ≤ t) ∧ ∀ x,tb[n + 1]? = some x → t < x
theorem Pr.uniq {tb : List Int} {t : Int} {n m : Nat} (h1 : Pr tb t n) (h2 : Pr tb t m) : n = m := by
 have key : ∀ {n m : Nat},Pr tb t n → Pr tb t m → ¬ n < m := fun {n m} h1 h2 h => by
  obtain ⟨x,hx,hx2⟩ := h2.2.1 n h
  have := h1.2.2 x hx
  omega
 have a := key h1 h2
 have b := key h2 h1
 omega
structure PI (R : List S76) (G : Nat → Nat) (R1 : List S76) (F1 : List Int) : Prop where
 lF : F1.length = R1.length
 lR : R1.length = R.length
 hF : ∀ i,i < R.length → F1[i]? = some ((G i : Nat) : Int)
 keep : ∀ i,0 < G i → R1[i]? = R[i]?
theorem PI.set {R : List S76} {G G' : Nat → Nat} {R1 : List S76} {F1 : List Int} (h : PI R G R1 F1) {i : Nat} (hi : i < R.length) (h1 : G i = G' i + 1) (h2 : ∀ j,j ≠ i → G j = G' j) : PI R G' R1 (F1.set i (G' i : Int)) := by
 refine ⟨by rw [List.length_set];exact h.lF,h.lR,fun j hj => ?_,fun j hj => h.keep j ?_⟩
 ·rw [List.getElem?_set]
  by_cases e : i = j
  ·subst e
   rw [if_pos rfl,if_pos (by rw [h.lF,h.lR];exact hi)]
  ·rw [if_neg e,h.hF j hj,h2 j (Ne.symm e)]
 ·by_cases e : j = i
  ·subst e;omega
  ·rw [h2 j e];exact hj
theorem PI.zero {R : List S76} {G : Nat → Nat} {R1 : List S76} {F1 : List Int} (h : PI R G R1 F1) {i : Nat} (h0 : G i = 0) (z : S76) : PI R G (R1.set i z) F1 := by
 refine ⟨by rw [List.length_set];exact h.lF,by rw [List.length_set];exact h.lR,h.hF,fun j hj => ?_⟩
 rw [List.getElem?_set_ne (fun e => by subst e;omega)]
 exact h.keep j hj
def stepI (_N : Nat) (recs : List Int) : ((List S76) × (List Int) × Int) → Option (((List S76) × (List Int) × Int) ⊕ ((List S76) × (List Int))) := fun (l271,l272,v273) =>
      if v273 < (recs.length : Int) then (
       (idx recs v273).bind fun x306 =>
       (idx l272 x306).bind fun x308 =>
       (chkI (x308 - 1)).bind fun v310 =>
       letv (setI l272 x306 v310) fun l311 =>
       (idx l311 x306).bind fun x312 =>
       if (x312 == 0) then (
        (idx l271 x306).bind fun _x314 =>
        letv (setI l271 x306 (S76.mk (ByteArray.mk #[]) ([] : List S71))) fun l315 =>
        (chkI (v273 + 1)).bind fun v316 =>
        some (.inl (l315,l311,v316))
       ) else
       (chkI (v273 + 1)).bind fun v317 =>
       some (.inl (l271,l311,v317))
      ) else
      some (.inr (l271,l272))
theorem inner_ok {N : Nat} (hN : bigN N) {R : List S76} {rest : Nat → Nat} {recs : List Int} {R1 : List S76} {F1 : List Int} (h : PI R (fun i => rest i + recs.count (i : Int)) R1 F1) (hm : ∀ a ∈ recs,∃ i : Nat,a = i ∧ i < R.length) (hl : recs.length ≤ 100) (hb : ∀ i,rest i ≤ 1000) :
  ∃ r,iterN (stepI N recs) N (R1,F1,0) = some r ∧ PI R rest r.1 r.2 := by
 have hN' : 9223372036854775808 ≤ N := hN
 refine loop_idx (σ := (List S76) × (List Int)) recs.length (fun s k => (s.1,s.2,k)) (stepI N recs) (fun k s => PI R (fun i => rest i + (recs.drop k).count (i : Int)) s.1 s.2) _ ?_ ?_ (R1,F1) (by simpa using h) (by omega)
 ·rintro k ⟨R2,F2⟩ hk hi
  dsimp only at hi
  obtain ⟨a,ha⟩ := get_of hk
  obtain ⟨i,rfl,hiR⟩ := hm a (List.mem_of_getElem? ha)
  have hdrop : recs.drop k = (i : Int) :: recs.drop (k + 1) := by
   obtain ⟨h5,h6⟩ := List.getElem?_eq_some_iff.1 ha
   rw [List.drop_eq_getElem_cons hk,h6]
  have hx := hi.hF i hiR
  have hc : (recs.drop k).count (i : Int) = (recs.drop (k + 1)).count (i : Int) + 1 := by rw [hdrop,List.count_cons_self]
  have hc2 : (recs.drop (k + 1)).count (i : Int) ≤ recs.length := Nat.le_trans List.count_le_length (by simp)
  have hn : ∀ j : Nat,j ≠ i → (recs.drop k).count (j : Int) = (recs.drop (k + 1)).count (j : Int) := fun j hj => by
   rw [hdrop,List.count_cons_of_ne]
   intro e
   exact hj (Int.ofNat_inj.1 e).symm
  have hbi := hb i
  have hp := hi.set (G' := fun i => rest i + (recs.drop (k + 1)).count (i : Int)) hiR (by show rest i + _ = rest i + _ + 1;omega) (fun j hj => by show rest j + _ = rest j + _;rw [hn j hj])
  left
  unfold stepI
  dsimp only
  rw [if_pos (by omega),idx_nat ha,Option.bind_some,idx_nat hx,Option.bind_some]
  have e1 : chkI (((rest i + (recs.drop k).count (i : Int) : Nat) : Int) - 1) = some ((rest i + (recs.drop (k + 1)).count (i : Int) : Nat) : Int) := by
   rw [chkI_of (by omega) (by omega)];congr 1;omega
  rw [e1,Option.bind_some,letv_eq,setI_nat]
  have e2 : (F2.set i ((rest i + (recs.drop (k + 1)).count (i : Int) : Nat) : Int))[i]? = some ((rest i + (recs.drop (k + 1)).count (i : Int) : Nat) : Int) := hp.hF i hiR
  rw [idx_nat e2,Option.bind_some]
  by_cases h0 : rest i + (recs.drop (k + 1)).count (i : Int) = 0
  ·obtain ⟨y,hy⟩ := get_of (l := R2) (k := i) (by rw [hi.lR];exact hiR)
   rw [if_pos (by rw [h0];rfl),idx_nat hy,Option.bind_some,letv_eq,setI_nat,chkI_of (by omega) (by omega),Option.bind_some]
   exact ⟨(_,_),rfl,hp.zero h0 _⟩
  ·rw [if_neg (by simp;omega),chkI_of (by omega) (by omega),Option.bind_some]
   exact ⟨(R2,_),rfl,hp⟩
 ·rintro ⟨R2,F2⟩ hi
  unfold stepI
  dsimp only at hi ⊢
  rw [if_neg (by omega)]
  refine ⟨_,rfl,?_⟩
  rw [List.drop_length] at hi
  simpa using hi
def stepO (N : Nat) (B : List S64) (n58 : Nat) : ((List S76) × (List Int) × Int) → Option (((List S76) × (List Int) × Int) ⊕ ((List S76) × (List Int))) := fun (l122,l123,v124) =>
   if v124 < (n58 : Int) then (
    (idx (B.take n58) v124).bind fun x257 =>
    Option.bind (α := ((List S76) × (List Int))) (iterN (stepI N x257.records) N (l122,l123,0)) fun ((l303,l304) : ((List S76) × (List Int))) =>
    (chkI (v124 + 1)).bind fun v318 =>
    some (.inl (l303,l304,v318))
   ) else
   some (.inr (l122,l123))
theorem outer_ok {N : Nat} (hN : bigN N) {R : List S76} {F : List Int} {B : List S64} {B' : List S35} (hB : All2 (BR R) B B') (hl : B.length ≤ 20) (h0 : PI R (cnt B) R F) {n : Nat} (hn : n < B.length) :
  ∃ r,iterN (stepO N B n) N (R,F,0) = some r ∧ PI R (cnt (B.drop n)) r.1 r.2 := by
 have hN' : 9223372036854775808 ≤ N := hN
 refine loop_idx (σ := (List S76) × (List Int)) n (fun s k => (s.1,s.2,k)) (stepO N B n) (fun k s => PI R (cnt (B.drop k)) s.1 s.2) _ ?_ ?_ (R,F) (by simpa using h0) (by omega)
 ·rintro k ⟨R2,F2⟩ hk hi
  dsimp only at hi
  obtain ⟨b,hb⟩ := get_of (l := B) (k := k) (by omega)
  have hbt : (B.take n)[k]? = some b := by rw [List.getElem?_take_of_lt hk];exact hb
  have hdrop : B.drop k = b :: B.drop (k + 1) := by
   obtain ⟨h5,h6⟩ := List.getElem?_eq_some_iff.1 hb
   rw [List.drop_eq_getElem_cons h5,h6]
  obtain ⟨b',hb',_,st,h1,h2,_⟩ := hB.get k b hb
  dsimp only at h1
  have hlen : b.records.length = st.length := h1.len
  obtain ⟨⟨R3,F3⟩,g1,g2⟩ := inner_ok hN (R := R) (rest := cnt (B.drop (k + 1))) (recs := b.records) (R1 := R2) (F1 := F2) (by
    have : cnt (B.drop k) = fun i => cnt (B.drop (k + 1)) i + b.records.count (i : Int) := by
     funext i
     rw [hdrop,cnt_cons];omega
    rw [this] at hi
    exact hi) (fun a ha => by
    obtain ⟨x,_,hx⟩ := h1.mem a ha
    obtain ⟨i,rfl,hi⟩ := hx.nat
    exact ⟨i,rfl,(List.getElem?_eq_some_iff.1 hi).1⟩) (by omega) (fun i => by
    have a := cnt_le (hB.drop (k + 1)) i
    rw [List.length_drop] at a
    omega)
  left
  unfold stepO
  dsimp only
  rw [if_pos (by omega),idx_nat hbt,Option.bind_some,g1,Option.bind_some]
  dsimp only
  rw [chkI_of (by omega) (by omega),Option.bind_some]
  exact ⟨(R3,F3),rfl,g2⟩
 ·rintro ⟨R2,F2⟩ hi
  unfold stepO
  dsimp only at hi ⊢
  rw [if_neg (by omega)]
  exact ⟨_,rfl,hi⟩
theorem count_ok {N : Nat} (hN : bigN N) {B : List S64} {t : Int} (hl : B.length ≤ 20) (hne : B ≠ []) :
  ∃ n : Nat,Pr (B.map (·.time)) t n ∧ iterN (σ := Int) (ρ := Int) (fun (v16 : Int) =>
   Option.bind (α := Bool) (
    (chkI (v16 + 1)).bind fun v51 =>
    if v51 < (B.length : Int) then (
     (chkI (v16 + 1)).bind fun v53 =>
     (idx B v53).bind fun x54 =>
     some (decide (x54.time ≤ t))
    ) else
    some false
   ) fun (v50 : Bool) =>
   if v50 = true then (
    (chkI (v16 + 1)).bind fun v57 =>
    some (.inl v57)
   ) else
   some (.inr v16)
  ) N 0 = some (n : Int) := by
 have hN' : 9223372036854775808 ≤ N := hN
 have hpos : 0 < B.length := List.length_pos_iff.2 hne
 obtain ⟨r,h1,n,rfl,h2⟩ := iter_post (fun (v16 : Int) =>
   Option.bind (α := Bool) (
    (chkI (v16 + 1)).bind fun v51 =>
    if v51 < (B.length : Int) then (
     (chkI (v16 + 1)).bind fun v53 =>
     (idx B v53).bind fun x54 =>
     some (decide (x54.time ≤ t))
    ) else
    some false
   ) fun (v50 : Bool) =>
   if v50 = true then (
    (chkI (v16 + 1)).bind fun v57 =>
    some (Sum.inl v57)
   ) else
   some (Sum.inr v16)) (fun v => (B.length - v.toNat)) (fun v => ∃ k : Nat,v = (k : Int) ∧ k < B.length ∧ ∀ j,j < k → ∃ x,(B.map (·.time))[j + 1]? = some x ∧ x ≤ t) (fun r => ∃ n : Nat,r = (n : Int) ∧ Pr (B.map (·.time)) t n) (by
  rintro v ⟨k,rfl,hk,hi⟩
  rw [chkI_of (by omega) (by omega),Option.bind_some]
  by_cases hlt : k + 1 < B.length
  ·obtain ⟨b,hb⟩ := get_of hlt
   have hbt : (B.map (·.time))[k + 1]? = some b.time := by rw [List.getElem?_map,hb];rfl
   rw [if_pos (by omega),Option.bind_some]
   have e : (k : Int) + 1 = ((k + 1 : Nat) : Int) := by omega
   rw [e,idx_nat hb,Option.bind_some,Option.bind_some]
   by_cases ht : b.time ≤ t
   ·left
    rw [if_pos (by simp [ht]),Option.bind_some]
    refine ⟨_,rfl,⟨k + 1,rfl,hlt,fun j hj => ?_⟩,by omega⟩
    by_cases e : j = k
    ·subst e;exact ⟨_,hbt,ht⟩
    ·exact hi j (by omega)
   ·right
    rw [if_neg (by simp [ht])]
    refine ⟨_,rfl,k,rfl,by rw [List.length_map];exact hk,hi,fun x hx => ?_⟩
    rw [hbt] at hx
    injection hx with hx
    omega
  ·right
   rw [if_neg (by omega),Option.bind_some,if_neg (by simp)]
   refine ⟨_,rfl,k,rfl,by rw [List.length_map];exact hk,hi,fun x hx => ?_⟩
   obtain ⟨h5,_⟩ := List.getElem?_eq_some_iff.1 hx
   rw [List.length_map] at h5
   omega) N 0 ⟨0,rfl,hpos,fun j hj => by omega⟩ (by simp;omega)
 exact ⟨n,h2,h1⟩
theorem countM_ok {N : Nat} (hN : bigN N) {B : List S35} {t : Int} (hl : B.length ≤ 20) (hne : B ≠ []) :
  ∃ n : Nat,Pr (B.map (·.Time)) t n ∧ iterN (σ := List S35) (ρ := List S35) (fun (l884 : List S35) =>
         Option.bind (α := Bool) (
          if (l884.length : Int) > 1 then (
           (idx l884 1).bind fun x911 =>
           some (decide (x911.Time ≤ t))
          ) else
          some false
         ) fun (v909 : Bool) =>
         if v909 = true then (
          (natI 1 l884.length).bind fun n913 =>
          letv (l884.drop n913) fun l914 =>
          some (.inl l914)
         ) else
         some (.inr l884)
        ) N B = some (B.drop n) := by
 have hN' : 9223372036854775808 ≤ N := hN
 have hpos : 0 < B.length := List.length_pos_iff.2 hne
 obtain ⟨r,h1,n,rfl,h2⟩ := iter_post (fun (l884 : List S35) =>
         Option.bind (α := Bool) (
          if (l884.length : Int) > 1 then (
           (idx l884 1).bind fun x911 =>
           some (decide (x911.Time ≤ t))
          ) else
          some false
         ) fun (v909 : Bool) =>
         if v909 = true then (
          (natI 1 l884.length).bind fun n913 =>
          letv (l884.drop n913) fun l914 =>
          some (Sum.inl l914)
         ) else
         some (Sum.inr l884)) (fun l => l.length) (fun l => ∃ k : Nat,l = B.drop k ∧ k < B.length ∧ ∀ j,j < k → ∃ x,(B.map (·.Time))[j + 1]? = some x ∧ x ≤ t) (fun r => ∃ n : Nat,r = B.drop n ∧ Pr (B.map (·.Time)) t n) (by
  rintro l ⟨k,rfl,hk,hi⟩
  have hdl : (B.drop k).length = B.length - k := List.length_drop
  by_cases hlt : k + 1 < B.length
  ·obtain ⟨b,hb⟩ := get_of hlt
   have hbt : (B.map (·.Time))[k + 1]? = some b.Time := by rw [List.getElem?_map,hb];rfl
   have hb1 : (B.drop k)[1]? = some b := by rw [List.getElem?_drop];exact hb
   rw [if_pos (by omega),show (1 : Int) = ((1 : Nat) : Int) from rfl,idx_nat hb1,Option.bind_some,Option.bind_some]
   by_cases ht : b.Time ≤ t
   ·left
    rw [if_pos (by simp [ht]),natI_nat (by omega),Option.bind_some,letv_eq]
    refine ⟨_,rfl,⟨k + 1,by rw [List.drop_drop],hlt,fun j hj => ?_⟩,by rw [List.length_drop];omega⟩
    by_cases e : j = k
    ·subst e;exact ⟨_,hbt,ht⟩
    ·exact hi j (by omega)
   ·right
    rw [if_neg (by simp [ht])]
    refine ⟨_,rfl,k,rfl,by rw [List.length_map];exact hk,hi,fun x hx => ?_⟩
    rw [hbt] at hx
    injection hx with hx
    omega
  ·right
   rw [if_neg (by omega),Option.bind_some,if_neg (by simp)]
   refine ⟨_,rfl,k,rfl,by rw [List.length_map];exact hk,hi,fun x hx => ?_⟩
   obtain ⟨h5,_⟩ := List.getElem?_eq_some_iff.1 hx
   rw [List.length_map] at h5
   omega) N B ⟨0,by simp,hpos,fun j hj => by omega⟩ (by omega)
 exact ⟨n,h2,h1⟩
/-- Prune, behind its tests -/
theorem d14_ok {N : Nat} (hN : bigN N) {R : List S76} {F : List Int} {B : List S64} {C : List S73} {e e' : Int} {B' : List S35} {C' : List S46} (I : Inv R F B C e B' C' e') {t : Int} (h1 : 0 ≤ t) (h2 : t ≤ 1099511627776) :
  ∃ (n : Nat) (R1 : List S76) (F1 : List Int) (b : S64) (b' : S35),Pr (B'.map (·.Time)) t n ∧ B'[n]? = some b' ∧ b'.Time = b.time ∧ d14 N (S68.mk R F B C e) t = some (S68.mk R1 F1 (B.drop n) (C.filter fun c => !decide (c.time ≤ b.time)) b.time,0) ∧
   Inv R1 F1 (B.drop n) (C.filter fun c => !decide (c.time ≤ b.time)) b.time (B'.drop n) (C'.filter fun c => !decide (c.Time ≤ b.time)) b.time := by
 have hN' : 9223372036854775808 ≤ N := hN
 have hlB := I.lB
 have hlC := I.lC
 obtain ⟨n,hn1,hn2⟩ := count_ok hN (t := t) I.lB I.ne
 have hnl : n < B.length := by have := hn1.1;rwa [List.length_map] at this
 obtain ⟨b,hb⟩ := get_of hnl
 obtain ⟨b',hb',hbb⟩ := I.hB.get n b hb
 have htime : b.time = b'.Time := hbb.1
 obtain ⟨⟨R1,F1⟩,g1,pi⟩ := outer_ok hN I.hB I.lB ⟨I.lF,rfl,I.hF,fun _ _ => rfl⟩ hnl
 dsimp only at pi
 refine ⟨n,R1,F1,b,b',by rw [times_eq I.hB];exact hn1,hb',htime.symm,?_,?_⟩
 ·unfold d14
  rw [if_neg (by omega),Option.bind_some,if_neg (by simp;omega)]
  dsimp only
  rw [hn2,Option.bind_some,natI_nat (by omega),Option.bind_some]
  have g1' : iterN (stepO N B n) N (R,F,0) = some (R1,F1) := g1
  unfold stepO stepI at g1'
  rw [g1',Option.bind_some]
  dsimp only
  rw [natI_nat (by omega),Option.bind_some]
  have e31 : d31 N (B.drop n) = some (B.drop n) := if_pos (by show _ ≤ 140737488355328;rw [List.length_drop];omega)
  have e0 : idx (B.drop n) 0 = some b := by
   rw [show (0 : Int) = ((0 : Nat) : Int) from rfl]
   exact idx_nat (by rw [List.getElem?_drop];exact hb)
  rw [e31,Option.bind_some,e0,Option.bind_some,d32_ok hN C (fun c => decide (c.time ≤ b.time)) (fun b0 => d33 N b0 b.time) (fun x => rfl) (by omega),Option.bind_some]
 ·have hcnt : ∀ i,0 < cnt (B.drop n) i → 0 < cnt B i := fun i hi => by
   obtain ⟨x,hx,h⟩ := cnt_pos.1 hi
   exact cnt_pos.2 ⟨x,List.mem_of_mem_drop hx,h⟩
  refine ⟨rfl,?_,(I.hB.drop n).imp fun x hx y _ hxy => hxy.mono fun i hi z hz => ?_,pi.lF,fun i hi => pi.hF i (by rw [← pi.lR];exact hi),fun i j x hi hj hx hy => ?_,?_,fun x hx => ?_,?_,I.sB.sublist (List.drop_sublist n B),I.sC.filter _,by rw [List.length_drop];omega,Nat.le_trans (List.length_filter_le _ _) hlC,by rw [pi.lR];exact I.lR,fun c hc => I.hc c (List.mem_filter.1 hc).1⟩
  ·rw [I.eC,List.filter_map]
   rfl
  ·rw [pi.keep i (cnt_pos.2 ⟨x,hx,hi⟩)];exact hz
  ·rw [pi.keep i hi] at hx
   rw [pi.keep j hj] at hy
   exact I.inj i j x (hcnt i hi) (hcnt j hj) hx hy
  ·intro h
   have := congrArg List.length h
   rw [List.length_drop,List.length_nil] at this
   omega
  ·rw [List.getElem?_drop,Nat.add_zero,hb] at hx
   injection hx with hx
   rw [hx]
  ·obtain ⟨a,ha⟩ := get_of (l := B) (k := 0) (by omega)
   have h3 := I.h0 a ha
   have h4 := I.he
   rcases Nat.eq_zero_or_pos n with e | e
   ·subst e
    rw [ha] at hb
    injection hb with hb
    rw [← hb];omega
   ·obtain ⟨p1,q1⟩ := List.getElem?_eq_some_iff.1 ha
    obtain ⟨p2,q2⟩ := List.getElem?_eq_some_iff.1 hb
    have := List.pairwise_iff_getElem.1 I.sB 0 n p1 p2 e
    rw [q1,q2] at this
    omega
end Go.Proofs.Ytfdhaigfonolpaa
end
section
namespace Go.Proofs.Ytfdhaigfonolpaa
open Go.Ab Go.Rp

theorem d7_tot (N : Nat) (l : List Int) {i : Int} (h0 : 0 ≤ i) : ∃ r,d7 N l i = some r := by
 unfold d7
 by_cases h : i < (l.length : Int)
 ·obtain ⟨a,ha⟩ := get_of (l := l) (k := i.toNat) (by omega)
  rw [if_pos h,idx_toNat h0 ha];exact ⟨a,rfl⟩
 ·rw [if_neg h];exact ⟨0,rfl⟩
theorem u64_wrap (n : Int) : 0 ≤ IntKind.u64.wrap n := by
 simp only [IntKind.wrap,IntKind.signed,IntKind.bits]
 simp
 omega
theorem u64_len {n : Nat} (h : n ≤ 140737488355328) : IntKind.u64.wrap (n : Int) = (n : Int) := by
 simp only [IntKind.wrap,IntKind.signed,IntKind.bits]
 simp
 omega
theorem rem_lt {x : Int} {n : Nat} (hx : 0 ≤ x) (hn : n ≠ 0) : ∃ k : Nat,remI x (n : Int) = some (k : Int) ∧ k < n := by
 refine ⟨(x.toNat % n),?_,Nat.mod_lt _ (by omega)⟩
 unfold remI
 rw [if_neg (by omega)]
 have : x = (x.toNat : Int) := (Int.toNat_of_nonneg hx).symm
 conv => lhs;rw [this]
 rfl
theorem d8_tot (N : Nat) (l : List ByteArray) (i : Int) (hl : l.length ≤ 140737488355328) : ∃ r,d8 N l i = some r := by
 unfold d8
 by_cases h : l.length = 0
 ·exact ⟨_,by rw [if_pos (by simp [h])]⟩
 ·obtain ⟨k,h1,h2⟩ := rem_lt (u64_wrap i) h
  obtain ⟨a,ha⟩ := get_of h2
  refine ⟨a,?_⟩
  rw [if_neg (by simpa using h),letv_eq,letv_eq,u64_len hl,h1,Option.bind_some,chkI_of (by omega) (by omega),Option.bind_some,idx_nat ha]
  rfl
theorem d9_tot (N : Nat) (l : List (List S71)) (i : Int) (hl : l.length ≤ 140737488355328) : ∃ r,d9 N l i = some r ∧ (r ∈ l ∨ r = []) := by
 unfold d9
 by_cases h : l.length = 0
 ·exact ⟨_,by rw [if_pos (by simp [h])],.inr rfl⟩
 ·obtain ⟨k,h1,h2⟩ := rem_lt (u64_wrap i) h
  obtain ⟨a,ha⟩ := get_of h2
  refine ⟨a,?_,.inl (List.mem_of_getElem? ha)⟩
  rw [if_neg (by simpa using h),letv_eq,letv_eq,u64_len hl,h1,Option.bind_some,chkI_of (by omega) (by omega),Option.bind_some,idx_nat ha]
  rfl

theorem oc_some {α β : Type} (x : α) (n : Option β) (f : α → Option β) : ocase (some x) n f = f x := rfl
theorem lat_ok {N : Nat} (hN : bigN N) {R : List S76} {F : List Int} {B : List S64} {C : List S73} {e e' : Int} {B' : List S35} {C' : List S46} (I : Inv R F B C e B' C' e') :
  ∃ v,d23 N (S68.mk R F B C e) = some v ∧ d10 N (S39.mk B' C' e') = some (S39.mk B' C' e',v) ∧ IsLat v (B.map (·.time)) (C.map (·.time)) := by
 have hlB := I.lB
 have hlC := I.lC
 have hl2 := I.hB.len
 obtain ⟨v,h1,h2⟩ := d23_ok (N := N) (R := R) (F := F) (e := e) I.ne (by omega) (by omega) I.sB I.sC
 obtain ⟨w,h3,h4⟩ := d10_ok hN (B := B') (C := C') (e := e') (by omega) (by rw [I.eC,List.length_map];omega) (by
  obtain ⟨b,hb⟩ := get_of (l := B) (k := 0) (List.length_pos_iff.2 I.ne)
  obtain ⟨b',hb',hbb⟩ := I.hB.get 0 b hb
  have e1 : b.time = b'.Time := hbb.1
  have := I.h0 b hb
  have := I.he
  exact ⟨b',List.mem_of_getElem? hb',by omega⟩)
 rw [times_eq I.hB,I.eC,List.map_map] at h4
 obtain rfl := h2.uniq h4
 exact ⟨v,h1,by rw [h3],h2⟩
theorem d5_ok {N : Nat} {R : List S76} {F : List Int} {B : List S64} {C : List S73} {e v t : Int} {key : ByteArray} {row : List S71} (hv : d23 N (S68.mk R F B C e) = some v) (hC : C.length ≤ 200) :
  d5 N (S68.mk R F B C e) t key row = if t ≤ v then some (S68.mk R F B C e,6) else if t > 1099511627776 ∨ key.size > 24 ∨ row.length > 6 then some (S68.mk R F B C e,2) else if C.length = 200 then some (S68.mk R F B C e,18) else some (S68.mk R F B (C ++ [S73.mk t key row]) e,0) := by
 unfold d5
 rw [hv,Option.bind_some]
 by_cases c1 : t ≤ v
 ·rw [if_pos c1,if_pos c1]
 rw [if_neg c1,if_neg c1]
 by_cases c2 : t > 1099511627776
 ·rw [if_pos c2,Option.bind_some,if_pos rfl,if_pos (.inl c2)]
 rw [if_neg c2]
 by_cases c3 : key.size > 24
 ·rw [if_pos (by omega),Option.bind_some,if_pos rfl,if_pos (.inr (.inl c3))]
 rw [if_neg (by omega),Option.bind_some]
 by_cases c4 : row.length > 6
 ·rw [if_pos (by simp;omega),if_pos (.inr (.inr c4))]
 have c6 : ¬ (t > 1099511627776 ∨ key.size > 24 ∨ row.length > 6) := by omega
 rw [if_neg (by simp;omega),if_neg c6]
 dsimp only
 by_cases c5 : C.length = 200
 ·rw [if_pos (by simp [c5]),if_pos c5]
 rw [if_neg (by simp;omega),if_neg c5,d24_ok (by omega),Option.bind_some]
 unfold appL
 rw [if_pos (by show _ ≤ 140737488355328;simp;omega),Option.bind_some]
theorem Inv.add {R : List S76} {F : List Int} {B : List S64} {C : List S73} {e e' : Int} {B' : List S35} {C' : List S46} (I : Inv R F B C e B' C' e') {v t : Int} {key : ByteArray} {row : List S71} (hv : IsLat v (B.map (·.time)) (C.map (·.time))) (ht : v < t) (hk : key.size ≤ 24) (hr : row.length ≤ 6) (hl : C.length < 200) :
  Inv R F B (C ++ [S73.mk t key row]) e B' (C' ++ [S46.mk t key row]) e' := by
 refine ⟨I.eE,by rw [I.eC,List.map_append];rfl,I.hB,I.lF,I.hF,I.inj,I.ne,I.h0,I.he,I.sB,?_,I.lB,by simp;omega,I.lR,fun c hc => ?_⟩
 ·refine List.pairwise_append.2 ⟨I.sC,by simp,fun x hx y hy => ?_⟩
  rw [List.mem_singleton] at hy
  rw [hy]
  have := hv.2.1 x.time (List.mem_map.2 ⟨x,hx,rfl⟩)
  show x.time < t
  omega
 ·rcases List.mem_append.1 hc with h | h
  ·exact I.hc c h
  ·rw [List.mem_singleton] at h
   rw [h];exact ⟨hk,hr⟩
theorem inv0 : Inv [] [] [S64.mk 0 []] [] 0 [S35.mk 0 []] [] 0 :=
 ⟨rfl,rfl,⟨⟨rfl,[],trivial,by simp,by simp,by simp,List.Pairwise.nil,by simp⟩,trivial⟩,rfl,by simp,by simp [cnt],by simp,by simp,Int.le_refl _,by simp,by simp,by simp,by simp,by simp,by simp⟩
abbrev SQ : Type := (List S76) × (List Int) × (List S64) × (List S73) × Int × (List S35) × (List S46) × Int
def IQ (q : SQ) : Prop := Inv q.1 q.2.1 q.2.2.1 q.2.2.2.1 q.2.2.2.2.1 q.2.2.2.2.2.1 q.2.2.2.2.2.2.1 q.2.2.2.2.2.2.2
theorem go_ok {ρ : Type} (R : List S76) (F : List Int) (B : List S64) (C : List S73) (e : Int) (B' : List S35) (C' : List S46) (e' : Int) (w : Int) (I : Inv R F B C e B' C' e') :
  ∃ q : (List S76) × (List Int) × (List S64) × (List S73) × Int × (List S35) × (List S46) × Int × Int × Int,(some (.go (R,F,B,C,e,B',C',e',w,w)) : Option (Out _ ρ)) = some (.go q) ∧ q.2.2.2.2.2.2.2.2.1 = q.2.2.2.2.2.2.2.2.2 ∧ IQ (q.1,q.2.1,q.2.2.1,q.2.2.2.1,q.2.2.2.2.1,q.2.2.2.2.2.1,q.2.2.2.2.2.2.1,q.2.2.2.2.2.2.2.1) :=
 ⟨_,rfl,rfl,I⟩
theorem d3_true {N : Nat} (hN : bigN N) (a0 : List (List Int)) (a1 : List ByteArray) (a2 : List (List S71)) (h0 : a0.length ≤ 140737488355328) (h1 : a1.length ≤ 140737488355328) (h2 : a2.length ≤ 140737488355328) : d3 N a0 a1 a2 = some true := by
 have hN' : 9223372036854775808 ≤ N := hN
 have hd4 : d4 N = some (some (S68.mk [] [] [S64.mk 0 []] [] 0)) := rfl
 have hd6 : d6 N = some [(S71.mk 1 5 (ByteArray.mk #[]))] := rfl
 obtain ⟨v0,l1,_,l3⟩ := lat_ok hN inv0
 have hv0 : v0 = 0 := by have := l3.2.2;simpa using this
 subst hv0
 have r1 := d5_ok (t := 3) (key := ByteArray.mk #[97]) (row := [(S71.mk 1 5 (ByteArray.mk #[]))]) l1 (by simp)
 rw [if_neg (by decide),if_neg (by decide),if_neg (by decide)] at r1
 have i1 := inv0.add (t := 3) (key := ByteArray.mk #[97]) (row := [(S71.mk 1 5 (ByteArray.mk #[]))]) l3 (by decide) (by decide) (by decide) (by decide)
 obtain ⟨v1,m1,_,m3⟩ := lat_ok hN i1
 have r2 := d5_ok (t := 3) (key := ByteArray.mk #[97]) (row := [(S71.mk 1 5 (ByteArray.mk #[]))]) m1 (by simp)
 rw [if_pos (m3.2.1 3 (by simp))] at r2
 unfold d3
 rw [hd4,Option.bind_some,hd6,oc_some]
 simp only [Option.bind_some]
 rw [r1]
 simp only [Option.bind_some]
 rw [if_neg (by decide),r2]
 simp only [Option.bind_some]
 rw [if_neg (by decide),oc_some]
 refine bindO_eq (P := fun r => r = .go ()) (loop_idx (σ := SQ) (ρ := Out Unit Bool) a0.length (fun s v => (s.1,s.2.1,s.2.2.1,s.2.2.2.1,s.2.2.2.2.1,s.2.2.2.2.2.1,s.2.2.2.2.2.2.1,s.2.2.2.2.2.2.2,v)) _ (fun _ q => IQ q) _ ?_ ?_ ([],[],[S64.mk 0 []],[],0,[S35.mk 0 []],[],0) inv0 (n := N) (by omega)) ?_ ?_
 ·rintro j ⟨R,F,B,C,e,B',C',e'⟩ hj I
  have I : Inv R F B C e B' C' e' := I
  obtain ⟨op,hop⟩ := get_of hj
  obtain ⟨t,ht⟩ := d7_tot N op (i := 1) (by decide)
  obtain ⟨k2,hk2⟩ := d7_tot N op (i := 2) (by decide)
  obtain ⟨key,hkey⟩ := d8_tot N a1 k2 h1
  obtain ⟨k3,hk3⟩ := d7_tot N op (i := 3) (by decide)
  obtain ⟨row,hrow,_⟩ := d9_tot N a2 k3 h2
  obtain ⟨w,hw⟩ := d7_tot N op (i := 0) (by decide)
  have hlB := I.lB
  have hlC := I.lC
  have hBl := I.hB.len
  have hCl : C'.length = C.length := by rw [I.eC,List.length_map]
  obtain ⟨v,g1,g2,g3⟩ := lat_ok hN I
  refine .inl ?_
  dsimp only
  rw [if_pos (by omega),idx_nat hop,Option.bind_some,ht,Option.bind_some,hk2,Option.bind_some,hkey,Option.bind_some,hk3,Option.bind_some,hrow,Option.bind_some,hw,Option.bind_some]
  have body : ∀ (D : Option (Out ((List S76) × (List Int) × (List S64) × (List S73) × Int × (List S35) × (List S46) × Int × Int × Int) (((List S76) × (List Int) × (List S64) × (List S73) × Int × (List S35) × (List S46) × Int × Int) ⊕ (Out Unit Bool))))
    (k : ((List S76) × (List Int) × (List S64) × (List S73) × Int × (List S35) × (List S46) × Int × Int × Int) → Option (((List S76) × (List Int) × (List S64) × (List S73) × Int × (List S35) × (List S46) × Int × Int) ⊕ (Out Unit Bool))),
    (∃ q : (List S76) × (List Int) × (List S64) × (List S73) × Int × (List S35) × (List S46) × Int × Int × Int,D = some (.go q) ∧ q.2.2.2.2.2.2.2.2.1 = q.2.2.2.2.2.2.2.2.2 ∧ IQ (q.1,q.2.1,q.2.2.1,q.2.2.2.1,q.2.2.2.2.1,q.2.2.2.2.2.1,q.2.2.2.2.2.2.1,q.2.2.2.2.2.2.2.1)) →
    (∀ R F B C e B' C' e' w,Inv R F B C e B' C' e' → k (R,F,B,C,e,B',C',e',w,w) = some (.inl (R,F,B,C,e,B',C',e',(j : Int) + 1))) →
    ∃ s' : SQ,bindO D k = some (.inl (s'.1,s'.2.1,s'.2.2.1,s'.2.2.2.1,s'.2.2.2.2.1,s'.2.2.2.2.2.1,s'.2.2.2.2.2.2.1,s'.2.2.2.2.2.2.2,(j : Int) + 1)) ∧ IQ s' := by
   rintro D k ⟨⟨R,F,B,C,e,B',C',e',w,w'⟩,hD,hq1,hq2⟩ hk
   have hq1 : w = w' := hq1
   subst hq1
   refine ⟨(R,F,B,C,e,B',C',e'),?_,hq2⟩
   rw [hD]
   exact hk R F B C e B' C' e' w hq2
  refine body _ _ ?_ ?_
  ·by_cases w1 : (w == 1) = true
   ·rw [if_pos w1,d5_ok g1 I.lC,g2]
    by_cases c1 : t ≤ v
    ·rw [if_pos c1]
     simp only [Option.bind_some]
     rw [if_pos c1]
     exact go_ok _ _ _ _ _ _ _ _ _ I
    rw [if_neg c1]
    by_cases c2 : t > 1099511627776 ∨ key.size > 24 ∨ row.length > 6
    ·rw [if_pos c2]
     simp only [Option.bind_some]
     rw [if_neg c1]
     have e2 : ((if t > 1099511627776 then some true else if (key.size : Int) > 24 then some true else some (decide ((row.length : Int) > 6))) : Option Bool) = some true := by
      by_cases q1 : t > 1099511627776
      ·rw [if_pos q1]
      rw [if_neg q1]
      by_cases q2 : (key.size : Int) > 24
      ·rw [if_pos q2]
      rw [if_neg q2]
      simp;omega
     rw [e2,Option.bind_some,if_pos rfl]
     exact go_ok _ _ _ _ _ _ _ _ _ I
    rw [if_neg c2]
    have e2 : ((if t > 1099511627776 then some true else if (key.size : Int) > 24 then some true else some (decide ((row.length : Int) > 6))) : Option Bool) = some false := by
     rw [if_neg (by omega),if_neg (by omega)]
     simp;omega
    by_cases c3 : C.length = 200
    ·rw [if_pos c3]
     simp only [Option.bind_some]
     rw [if_neg c1,e2,Option.bind_some,if_neg (by simp),if_pos (by omega)]
     exact go_ok _ _ _ _ _ _ _ _ _ I
    ·rw [if_neg c3]
     simp only [Option.bind_some]
     rw [if_neg c1,e2,Option.bind_some,if_neg (by simp),if_neg (by omega)]
     unfold appL
     rw [if_pos (by show _ ≤ 140737488355328;simp;omega),Option.bind_some]
     exact go_ok _ _ _ _ _ _ _ _ _ (I.add g3 (by omega) (by omega) (by omega) (by omega))
   rw [if_neg w1]
   have hst := states_of I.hB
   obtain ⟨m,hm1,hm2⟩ := d12_ok hN B' C' e' t (by omega) (by omega) (fun b hb => (hst b hb).2.1)
   by_cases w2 : (w == 2) = true
   ·rw [if_pos w2,hm1]
    by_cases c1 : t ≤ v
    ·have q : d11 N (S68.mk R F B C e) t = some (S68.mk R F B C e,0,6) := by
      unfold d11
      rw [g1,Option.bind_some,if_pos c1]
     rw [q]
     simp only [Option.bind_some]
     rw [g2,Option.bind_some,if_pos c1,if_neg (by decide)]
     exact go_ok _ _ _ _ _ _ _ _ _ I
    by_cases c2 : t > 1099511627776
    ·have q : d11 N (S68.mk R F B C e) t = some (S68.mk R F B C e,0,2) := by
      unfold d11
      rw [g1,Option.bind_some,if_neg c1,if_pos c2]
     rw [q]
     simp only [Option.bind_some]
     rw [g2,Option.bind_some,if_neg c1,if_pos c2,if_neg (by decide)]
     exact go_ok _ _ _ _ _ _ _ _ _ I
    by_cases c3 : B.length = 20
    ·have q : d11 N (S68.mk R F B C e) t = some (S68.mk R F B C e,0,18) := by
      unfold d11
      rw [g1,Option.bind_some,if_neg c1,if_neg c2,if_pos (by simp [c3])]
     rw [q]
     simp only [Option.bind_some]
     rw [g2,Option.bind_some,if_neg c1,if_neg c2,if_pos (by show (B'.length : Int) ≥ 20;omega),Option.bind_some,if_pos rfl,if_neg (by decide)]
     exact go_ok _ _ _ _ _ _ _ _ _ I
    have q := d11_ok hN I g3 (by omega) (by omega) (by omega) hm2
    by_cases c4 : m.length > 40
    ·rw [if_pos c4] at q
     rw [q]
     simp only [Option.bind_some]
     rw [g2,Option.bind_some,if_neg c1,if_neg c2,if_neg (by show ¬ (B'.length : Int) ≥ 20;omega),Option.bind_some,if_pos (by simp;omega),if_neg (by decide)]
     exact go_ok _ _ _ _ _ _ _ _ _ I
    ·rw [if_neg c4] at q
     obtain ⟨R1,F1,recs,st,q1,q2,q3,q4⟩ := q
     rw [q1]
     simp only [Option.bind_some]
     rw [g2,Option.bind_some,if_neg c1,if_neg c2,if_neg (by show ¬ (B'.length : Int) ≥ 20;omega),Option.bind_some,if_neg (by simp;omega)]
     dsimp only
     rw [d13_ok hN I q2 q3 (by omega),Option.bind_some]
     unfold appL
     dsimp only
     rw [if_pos (by show _ ≤ 140737488355328;simp;omega),Option.bind_some,if_neg (by simp)]
     exact go_ok _ _ _ _ _ _ _ _ _ q4
   rw [if_neg w2]
   by_cases w3 : (w == 3) = true
   ·rw [if_pos w3]
    by_cases c1 : t ≥ 0
    ·by_cases c2 : t ≤ 1099511627776
     ·obtain ⟨n,R1,F1,b,b',q1,q2,q3,q4,q5⟩ := d14_ok hN I c1 c2
      obtain ⟨n',p1,p2⟩ := countM_ok hN (B := B') (t := t) (by omega) (by
       intro h
       exact I.ne (List.eq_nil_of_length_eq_zero (by rw [hBl,h];rfl)))
      obtain rfl := q1.uniq p1
      rw [q4,Option.bind_some,if_pos c1,Option.bind_some,if_pos (by simp [c2]),p2,Option.bind_some]
      have e0 : idx (B'.drop n) 0 = some b' := by
       rw [show (0 : Int) = ((0 : Nat) : Int) from rfl]
       exact idx_nat (by rw [List.getElem?_drop];exact q2)
      have e16 : d16 N C' = some C' := if_pos (by show _ ≤ 140737488355328;omega)
      rw [e0,Option.bind_some,e16,Option.bind_some,d15_ok hN C' (fun c => decide (c.Time ≤ b'.Time)) (fun b0 => d17 N b0 b'.Time) (fun x => rfl) (by omega),Option.bind_some,q3]
      exact go_ok _ _ _ _ _ _ _ _ _ q5
     ·have q : d14 N (S68.mk R F B C e) t = some (S68.mk R F B C e,1) := by
       unfold d14
       rw [if_neg (by omega),Option.bind_some,if_pos (by simp;omega)]
      rw [q,Option.bind_some,if_pos c1,Option.bind_some,if_neg (by simp [c2])]
      exact go_ok _ _ _ _ _ _ _ _ _ I
    ·have q : d14 N (S68.mk R F B C e) t = some (S68.mk R F B C e,1) := by
      unfold d14
      rw [if_pos (by omega),Option.bind_some,if_pos rfl]
     rw [q,Option.bind_some,if_neg c1,Option.bind_some,if_neg (by simp)]
     exact go_ok _ _ _ _ _ _ _ _ _ I
   rw [if_neg w3]
   by_cases w4 : (w == 4) = true
   ·rw [if_pos w4]
    have hee := I.eE
    by_cases c1 : t < e
    ·have q : d18 N (S68.mk R F B C e) t = some (S68.mk R F B C e,([] : List S76),21) := by
      unfold d18
      rw [if_pos c1]
     rw [q,Option.bind_some,if_pos (by omega),if_neg (by simp)]
     exact go_ok _ _ _ _ _ _ _ _ _ I
    ·obtain ⟨st,q1,q2,q3,q4⟩ := d18_ok hN (F := F) I.hB (by omega) (by omega) I.ne I.h0 I.hc (t := t) (by omega)
     rw [← I.eC] at q2
     rw [q1,Option.bind_some,if_neg (by omega),hm1,Option.bind_some]
     dsimp only
     rw [d20_ok q2 hm2 q4 (by omega),Option.bind_some,d19_ok hN q4 (by omega),Option.bind_some,if_neg (by simp)]
     exact go_ok _ _ _ _ _ _ _ _ _ I
   rw [if_neg w4]
   exact go_ok _ _ _ _ _ _ _ _ _ I
  ·intro R F B C e B' C' e' w I
   have hBl := I.hB.len
   have hCl : C'.length = C.length := by rw [I.eC,List.length_map]
   dsimp only
   rw [d21_ok hN I,Option.bind_some,if_neg (by simp)]
   dsimp only
   rw [if_neg (by simp [hBl]),d22_ok hN I,Option.bind_some]
   dsimp only
   rw [if_neg (by simp),Option.bind_some]
   dsimp only
   rw [if_neg (by simp [hCl]),chkI_of (by omega) (by omega),Option.bind_some]
 ·rintro ⟨R,F,B,C,e,B',C',e'⟩ I
  refine ⟨_,?_,rfl⟩
  dsimp only
  rw [if_neg (by omega)]
 ·intro x hx;cases hx
 ·intro b _;rfl
end Go.Proofs.Ytfdhaigfonolpaa
end
section
namespace Go.Proofs.Ytfdhaigfonolpaa
open Go.Ab Go.Rp
open Go.Ab.Enc (eC eV)

abbrev RValue := Rp.St (Int × Int × ByteArray × Unit)
def toValue (t : RValue) : S71 := ⟨t.val.1,t.val.2.1,t.val.2.2.1⟩
theorem eC_row (l : List RValue) : (eC l : List D) = cL cS71 (l.map toValue) := by
 show [D.sl (l.map eC)] = [D.sl ((l.map toValue).map cS71)]
 rw [List.map_map]
 rfl

theorem backup_fun (a : List (List Int)) (b : List ByteArray) (c : List (List RValue)) (h0 : a.length * 24 ≤ reach) (h1 : b.length * 16 ≤ reach) (h2 : c.length * 24 ≤ reach) : Fun Try.prog 3 [eV a,eV b,eV c] (fun r _ => r = .d (.lit (.bool true))) := by
 have h := p3 9223372036854775808 a b (c.map (List.map toValue)) true (d3_true (Nat.le_refl _) a b _ (by unfold reach at h0;omega) (by unfold reach at h1;omega) (by rw [List.length_map];unfold reach at h2;omega))
 have e0 : (eV a : V) = .d (.sl (a.map (cL (cI .i64)))) := rfl
 have e1 : (eV b : V) = .d (.sl (b.map cS)) := rfl
 have e2 : (eV c : V) = .d (.sl ((c.map (List.map toValue)).map (cL cS71))) := by
  show V.d (.sl (c.map eC)) = _
  rw [List.map_map]
  congr 2
  exact List.map_congr_left fun l _ => eC_row l
 rw [e0,e1,e2]
 exact h.2.mono fun _ _ h => h.1
end Go.Proofs.Ytfdhaigfonolpaa
end
