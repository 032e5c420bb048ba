/- Functions of the program as functional programs; the code computes them. -/
import Derived.Test.YtfdhaigfonolpaaBk1
namespace Go.Proofs.Ytfdhaigfonolpaa
set_option maxRecDepth 100000
set_option maxHeartbeats 4000000
open Go.Ab Go.Rp
attribute [-simp] List.all_eq_true Array.all_toList Array.all_eq_true
def d35 (N : Nat) (a0 : (List S76)) (a1 : ByteArray) (p2 : S76 → ByteArray → Option Int) : Option (Int × Bool) :=
 Option.bind (α := Int) (
  iterN (σ := (Int × Int)) (ρ := Int) (fun ((v11,v12) : (Int × Int)) =>
   if v11 < v12 then (
    (chkI (v11 + v12)).bind fun v37 =>
    letv (IntKind.u64.wrap (v37)) fun v38 =>
    letv (shrI v38 1) fun v39 =>
    (chkI (v39)).bind fun v40 =>
    (idx a0 v40).bind fun x41 =>
    (p2 x41 a1).bind fun r43 =>
    if r43 < 0 then (
     (chkI (v40 + 1)).bind fun v45 =>
     some (.inl (v45,v12))
    ) else
    some (.inl (v11,v40))
   ) else
   some (.inr v11)
  ) N (0,(a0.length : Int))
 ) fun (v35 : Int) =>
 Option.bind (α := Bool) (
  if v35 < (a0.length : Int) then (
   (idx a0 v35).bind fun x52 =>
   (p2 x52 a1).bind fun r54 =>
   some (r54 == 0)
  ) else
  some false
 ) fun (v50 : Bool) =>
 some (v35,v50)
theorem p35 (N : Nat) (a0 : (List S76)) (a1 : ByteArray) (g2 : Nat) (cs2 : List D) (p2 : S76 → ByteArray → Option Int) (ent_2 : Rp.Enters Try.prog g2) (hp2 : ∀ a0 a1 r,p2 a0 a1 = some r → FunC Try.prog g2 ([.agg [.s a0.Key,.s71 a0.Row],.s a1] ++ cs2.map .d) (.i r)) (r : (Int × Bool)) (h : d35 N a0 a1 p2 = some r) : FunC Try.prog 35 [.s76 a0,.s a1,.fg g2 cs2] (.tup [.i r.1,.b r.2]) := by
 unfold d35 at h
 refine FunC.enter 49 [(0,.s76 a0),(1,.s a1),(2,.fg g2 cs2)] (by simp) Try.func35 rfl (of_decide_eq_true rfl) rfl rfl ?_
 refine .seqR ?_
 refine .rr 2 ?_
 refine .tt (L5 a0 a1 ++ [(2,.fg g2 cs2)]) [] (.nil (.seqR ?_))
 refine .rr 3 ?_
 refine .tt (L5 a0 a1 ++ [(2,.fg g2 cs2),(8,.i (a0.length : Int))]) [] (.nil (.seqR ?_))
 refine .rr 3 ?_
 refine .tt (L5 a0 a1 ++ [(2,.fg g2 cs2),(8,.i (a0.length : Int)),(9,.i 0),(10,.i (a0.length : Int))]) [] (.nil ?_)
 refine .seqN (fun (v35 : Int) => mk 49 [] (L5 a0 a1 ++ [(2,.fg g2 cs2),(8,.i (a0.length : Int)),(9,.i v35)]) []) h ?_ ?_ <;> clear h
 ·intro o h
  refine .block ?_
  refine .iter (fun ((v11,v12) : (Int × Int)) => mk 49 [] (L5 a0 a1 ++ [(2,.fg g2 cs2),(8,.i (a0.length : Int)),(9,.i v11),(10,.i v12)]) []) h Sub.tt ?_
  clear h
  rintro ⟨v11,v12⟩ x h
  dsimp only at h ⊢
  refine .seq (.seqR ?_)
  refine .rr 3 ?_
  refine .tt (L5 a0 a1 ++ [(2,.fg g2 cs2),(8,.i (a0.length : Int)),(9,.i v11),(10,.i v12),(17,.b (decide (v11 < v12)))]) [] (.nil ?_)
  replace h := isome h;rcases h with ⟨c36,h⟩ | ⟨c36,h⟩
  ·have c36_ : decide (v11 < v12) = true := decide_eq_true c36
   refine .condT rfl c36_ ?_
   refine .skip (thenQ_normal (.block (.seqR ?_)))
   replace h := csome h;obtain ⟨v37,hv37,h⟩ := h
   replace h := lsome h;obtain ⟨v38,hv38,h⟩ := h
   replace h := lsome h;obtain ⟨v39,hv39,h⟩ := h
   replace h := csome h;obtain ⟨v40,hv40,h⟩ := h
   refine .rk 7 fun K k => ?_;simp [hv37,hv38,hv39,IntKind.bits,hv40];refine k ?_
   refine .tt (L5 a0 a1 ++ [(2,.fg g2 cs2),(8,.i (a0.length : Int)),(9,.i v11),(10,.i v12),(11,.i v40)]) [] (.nil (.seqR ?_))
   replace h := xsome h;obtain ⟨x41,k42,hx41k,hx41,hx41a,hx41b,h⟩ := h
   refine .rk 6 fun K k => ?_;simp [hx41,hx41k,hx41a];refine k ?_
   refine .tt (L5 a0 a1 ++ [(2,.fg g2 cs2),(8,.i (a0.length : Int)),(9,.i v11),(10,.i v12),(11,.i v40),(24,.fg g2 cs2),(28,.agg [.s x41.Key,.s71 x41.Row]),(29,.s a1)]) [] ?_
   replace h := bsome h;obtain ⟨r43,hr43,h⟩ := h
   refine .callL (d := 30) (hp2 x41 a1 r43 hr43) (by simp) rfl rfl (by simp <;> rfl) (by simp <;> rfl) ent_2 (by simp <;> rfl) ?_
   refine .st (mk 49 [] (L5 a0 a1 ++ [(2,.fg g2 cs2),(8,.i (a0.length : Int)),(9,.i v11),(10,.i v12),(11,.i v40),(24,.fg g2 cs2),(28,.agg [.s x41.Key,.s71 x41.Row]),(29,.s a1),(30,.i r43)]) []) ?_
   refine .rr 1 ?_
   refine .tt (L5 a0 a1 ++ [(2,.fg g2 cs2),(8,.i (a0.length : Int)),(9,.i v11),(10,.i v12),(11,.i v40),(31,.b (decide (r43 < 0)))]) [] (.nil ?_)
   replace h := isome h;rcases h with ⟨c44,h⟩ | ⟨c44,h⟩
   ·have c44_ : decide (r43 < 0) = true := decide_eq_true c44
    refine .condT rfl c44_ ?_
    refine .region ?_
    replace h := csome h;obtain ⟨v45,hv45,h⟩ := h
    refine .rk 3 fun K k => ?_;simp [hv45];refine k ?_
    refine .tt (L5 a0 a1 ++ [(2,.fg g2 cs2),(8,.i (a0.length : Int)),(9,.i v45),(10,.i v12)]) [] (.nil ?_)
    cases h
    refine blockQ.normal (PostI.next ?_)
    exact Sub.tt
   have c44_ : decide (r43 < 0) = false := decide_eq_false c44
   refine .condF rfl c44_ ?_
   refine .region ?_
   refine .rr 2 ?_
   refine .tt (L5 a0 a1 ++ [(2,.fg g2 cs2),(8,.i (a0.length : Int)),(9,.i v11),(10,.i v40)]) [] (.nil ?_)
   cases h
   refine blockQ.normal (PostI.next ?_)
   exact Sub.tt
  have c36_ : decide (v11 < v12) = false := decide_eq_false c36
  refine .condF rfl c36_ ?_
  refine .exit ?_
  cases h
  refine thenQ_ps ?_
  refine PostI.os ?_
  rintro rfl
  refine blockQ.hit (PostN.next ?_)
  exact Sub.tt
 rintro v35 h
 replace h := bsome h;obtain ⟨v50,hj,h⟩ := h
 refine .cutR (mk 49 [] [(6,.i v35),(7,.b v50)] []) ?_ ?_
 ·clear h;have h := hj;clear hj
  refine .rr 5 ?_
  refine .tt (L5 a0 a1 ++ [(2,.fg g2 cs2),(9,.i v35),(35,.i v35),(39,.b (decide (v35 < (a0.length : Int))))]) [] ?_
  replace h := isome h;rcases h with ⟨c51,h⟩ | ⟨c51,h⟩
  ·have c51_ : decide (v35 < (a0.length : Int)) = true := decide_eq_true c51
   refine .sub (.bool 39 rfl c51_) ?_
   refine .st (mk 49 [] (L5 a0 a1 ++ [(2,.fg g2 cs2),(9,.i v35),(35,.i v35),(39,.b true)]) []) ?_
   replace h := xsome h;obtain ⟨x52,k53,hx52k,hx52,hx52a,hx52b,h⟩ := h
   refine .rk 6 fun K k => ?_;simp [hx52,hx52k,hx52a];refine k ?_
   refine .tt [(35,.i v35),(39,.b true),(40,.fg g2 cs2),(44,.agg [.s x52.Key,.s71 x52.Row]),(45,.s a1)] [] ?_
   replace h := bsome h;obtain ⟨r54,hr54,h⟩ := h
   refine .callL (d := 46) (hp2 x52 a1 r54 hr54) (by simp) rfl rfl (by simp <;> rfl) (by simp <;> rfl) ent_2 (by simp <;> rfl) ?_
   refine .st (mk 49 [] [(35,.i v35),(39,.b true),(40,.fg g2 cs2),(44,.agg [.s x52.Key,.s71 x52.Row]),(45,.s a1),(46,.i r54)] []) ?_
   refine .rr 4 ?_
   refine .tt [(6,.i v35),(7,.b (r54 == 0))] [] ?_
   cases h
   exact .nil .tt
  have c51_ : decide (v35 < (a0.length : Int)) = false := decide_eq_false c51
  refine .sub (.bool 39 rfl c51_) ?_
  refine .st (mk 49 [] (L5 a0 a1 ++ [(2,.fg g2 cs2),(9,.i v35),(35,.i v35),(39,.b false)]) []) ?_
  refine .rr 11 ?_
  refine .tt [(6,.i v35),(7,.b false)] [] ?_
  cases h
  exact .nil .tt
 clear hj
 refine .ret ?_
 cases h
 exact FinC.rs
def d48 (_N : Nat) (a0 a1 : ByteArray) : Option Int := some (Lib.compareBytes a0.data.toList a1.data.toList)
theorem p48 (N : Nat) (a0 a1 : ByteArray) (r : Int) (h : d48 N a0 a1 = some r) : FunC Try.prog 48 [.s a0,.s a1] (.i r) := by
 injection h with h;subst h
 exact FunC.of_calls (vals := [.string a0,.string a1]) (by rintro E w vs ⟨_,_,rfl,⟨rfl,_⟩,_,_,rfl,⟨rfl,_⟩,rfl⟩;rfl) rfl (fun w _ => (Try.bytealg_CompareString a0 a1 w).mono (by rintro e w2 ⟨rfl,rfl⟩;exact ⟨rfl,.refl _ _⟩))
def d37 (N : Nat) (a0 : ByteArray) (a1 : ByteArray) : Option Int :=
 (d48 N a0 a1).bind fun r1 =>
 some r1
theorem p37 (N : Nat) (a0 : ByteArray) (a1 : ByteArray) (r : Int) (h : d37 N a0 a1 = some r) : FunC Try.prog 37 [.s a0,.s a1] (.i r) := by
 unfold d37 at h
 refine FunC.enter 8 [(0,.s a0),(1,.s a1)] (by simp) Try.func37 rfl (of_decide_eq_true rfl) rfl rfl ?_
 refine .seqR ?_
 refine .rr 1 ?_
 refine .tt [(0,.s a0),(1,.s a1)] [] (.nil (.seqR ?_))
 refine .rr 2 ?_
 refine .tt [(5,.s a0),(6,.s a1)] [] ?_
 replace h := bsome h;obtain ⟨r1,hr1,h⟩ := h
 refine .callL (d := 7) (p48 N a0 a1 r1 hr1) (by simp) rfl rfl (by simp <;> rfl) (by simp <;> rfl) ent48 (by simp <;> rfl) ?_
 refine .st (mk 8 [] [(5,.s a0),(6,.s a1),(7,.i r1)] []) ?_
 refine .rr 1 ?_
 refine .tt [(4,.i r1)] [] (.nil (.ret ?_))
 cases h
 exact FinC.rs
def d36 (N : Nat) (a0 : S76) (a1 : ByteArray) : Option Int :=
 (d37 N a0.Key a1).bind fun r1 =>
 some r1
theorem p36 (N : Nat) (a0 : S76) (a1 : ByteArray) (r : Int) (h : d36 N a0 a1 = some r) : FunC Try.prog 36 [.agg [.s a0.Key,.s71 a0.Row],.s a1] (.i r) := by
 unfold d36 at h
 refine FunC.enter 9 [(0,.agg [.s a0.Key,.s71 a0.Row]),(1,.s a1)] (by simp) Try.func36 rfl (of_decide_eq_true rfl) rfl rfl ?_
 refine .seqR ?_
 refine .rr 2 ?_
 refine .tt [(1,.s a1),(2,.ptr 2 0 0)] [(2,some (.box [.s a0.Key,.s71 a0.Row]))] (.nil (.seqR ?_))
 refine .rr 3 ?_
 refine .tt [(6,.s a0.Key),(7,.s a1)] [] ?_
 replace h := bsome h;obtain ⟨r1,hr1,h⟩ := h
 refine .callL (d := 8) (p37 N a0.Key a1 r1 hr1) (by simp) rfl rfl (by simp <;> rfl) (by simp <;> rfl) ent37 (by simp <;> rfl) ?_
 refine .st (mk 9 [] [(6,.s a0.Key),(7,.s a1),(8,.i r1)] []) ?_
 refine .rr 1 ?_
 refine .tt [(4,.i r1)] [] (.nil (.ret ?_))
 cases h
 exact FinC.rs
def d38 (_ : Nat) (a0 : (List S76)) (a1 a2 : Int) : Option (List S76) := delL a0 a1 a2
theorem p38 (N : Nat) (a0 : (List S76)) (a1 a2 : Int) (r : (List S76)) (h : d38 N a0 a1 a2 = some r) : FunM Try.prog 38 [.ref 1000 0 a0.length,.d (.lit (.int .i64 a1)),.d (.lit (.int .i64 a2))] [(1000,some (.arr 76 2 (a0.map cS76)))] [] (.ref 1000 0 r.length) [(1000,.arr 76 2 (r.map cS76))] := by
 obtain ⟨i,j,rfl,rfl,hij,hj,hrl,hr⟩ := delL_some cS76 h
 have hes : ∀ x ∈ a0.map cS76,x.length = 2 := fun x hx => by
  obtain ⟨y,_,rfl⟩ := List.mem_map.1 hx
  rfl
 rw [hr,hrl]
 have hel : (a0.map cS76).length = a0.length := by simp
 rw [← hel] at hj hrl ⊢
 clear hel h hr hrl
 generalize a0.map cS76 = es at *
 refine FunM.enter 33 [(0,.ref 1000 0 es.length),(1,.i i),(2,.i j)] Try.func38 rfl (of_decide_eq_true rfl) rfl rfl ?_
 refine .goR [] 1 fun K k => ?_;simp;refine k _ ?_;clear k K
 refine .seqR ?_
 refine .rr 5 ?_
 have hjn : (j : Int) ≤ es.length := by omega
 have hin : (i : Int) ≤ j := by omega
 refine .slice3 (id := 1000) (off := 0) (len := es.length) (mq := es.length) (hq := j) (lq := i) (by simp) rfl ty55 rfl ty76 rfl (by simp [bnd]) (by simp [bnd,hj]) (by simp [bnd];omega) ?_
 refine .nil ?_
 have hne : ¬ ((i : Int) = j) := by omega
 refine .seq ?_
 refine .goR [] 3 fun K k => ?_;simp;refine k _ ?_;clear k K
 refine .condK fun K1 K2 k1 k2 => ?_;simp [hne];refine k2 ?_;clear k1 k2 K1 K2
 refine .skip (thenQ_normal ?_)
 refine .goR [] 3 fun K k => ?_;simp;refine k _ ?_;clear k K
 refine .seqT 6 (by kernel_rfl) (by kernel_rfl) fun K k => ?_
 simp [show i ≤ es.length by omega,hj];refine k _ _ ?_;clear k K
 have htk : List.take (es.length - j) (es.drop j) = es.drop j := List.take_of_length_le (by simp)
 refine .cut (mk 33 [] [(0,.ref 1000 0 (i + (es.length - j))),(7,.i es.length)] [(1000,some (.arr 76 2 (es.take i ++ (es.drop j ++ es.drop (i + (es.length - j))))))]) ?_ fun S' hS => AW.sub hS ?_
 ·by_cases hje : j = es.length
  ·have hdn : es.drop j = [] := by rw [hje];simp
   refine Chain.appNo (id := 1000) (len := i) (es := es) (te := ⟨_,2,40,_⟩) (by simp) rfl rfl rfl rfl ty55 rfl ty76 rfl rfl (by simp [srcV,hje]) (by omega) (by omega) ?_
   refine .rr 1 ?_
   refine .nil ?_
   exact Sub.table (by simp [hje]) (by simp [hje])
  ·refine Chain.appIn (id := 1000) (len := i) (es := es) (ys := es.drop j) (te := ⟨_,2,40,_⟩) (by simp) rfl rfl rfl rfl ty55 rfl ty76 rfl rfl (by simp [srcV,show j + (es.length - j) ≤ es.length by omega]) (fun y hy => hes y (List.mem_of_mem_drop hy)) (by simp;omega) (by simp;omega) ?_
   refine .rr 1 ?_
   refine .nil ?_
   exact Sub.table (by simp) (by simp)
 have hl2 : (es.take i ++ (es.drop j ++ es.drop (i + (es.length - j)))).length = es.length := by simp;omega
 have hes2 : ∀ x ∈ (es.take i ++ (es.drop j ++ es.drop (i + (es.length - j)))),x.length = 2 := fun x hx => by
  rcases List.mem_append.1 hx with hx | hx
  ·exact hes x (List.mem_of_mem_take hx)
  ·rcases List.mem_append.1 hx with hx | hx
   ·exact hes x (List.mem_of_mem_drop hx)
   ·exact hes x (List.mem_of_mem_drop hx)
 have htk2 : (es.take i ++ (es.drop j ++ es.drop (i + (es.length - j)))).take (i + (es.length - j)) = es.take i ++ es.drop j := by
  rw [← List.append_assoc]
  exact List.take_left' (by simp;omega)
 generalize (es.take i ++ (es.drop j ++ es.drop (i + (es.length - j)))) = es2 at hl2 hes2 htk2 ⊢
 refine .seqR ?_
 refine .rr 4 ?_
 refine Chain.sliceX (id := 1000) (off := 0) (len := i + (es.length - j)) (es := es2) (hq := es.length) (lq := i + (es.length - j)) (te := ⟨_,2,40,_⟩) (by simp) rfl ty55 rfl ty76 rfl rfl (by omega) (by omega) (by simp [bnd,hl2]) (by simp [bnd];omega) ?_
 simp
 refine Chain.clear (id := 1000) (off := i + (es.length - j)) (len := es.length - (i + (es.length - j))) (es := es2) (te := ⟨_,2,40,_⟩) (by simp) rfl rfl rfl rfl ty55 rfl ty76 (by simp) (by simp) rfl rfl (by omega) (by omega) ?_
 simp
 refine .nil ?_
 refine .goR [] 2 fun K k => ?_;simp;refine k _ ?_;clear k K
 have hcl : ∀ zs : List (List D),List.take (i + (es.length - j)) (es.take i ++ (es.drop j ++ zs)) = es.take i ++ es.drop j := fun zs => by
  rw [← List.append_assoc]
  exact List.take_left' (by simp;omega)
 refine .sub (.cut 1000 (i + (es.length - j)) rfl) ?_
 refine .sub (S' := mk 33 [] [(6,.ref 1000 0 (i + (es.length - j)))] [(1000,some (.arr 76 2 (es.take i ++ es.drop j)))]) (by simp [htk2];exact Sub.table (by simp) (by simp [hcl])) ?_
 refine .ret ?_
 exact FinF.ret (by simp) (by simp)
def d39 (_N : Nat) (a0 : List S76) (a1 : Int) (a2 : List S76) : Option (List S76) := insL 40 a0 a1 a2
theorem p39 (N : Nat) (a0 : List S76) (a1 : Int) (a2 : List S76) (r : List S76) (h : d39 N a0 a1 a2 = some r) :
  FunM Try.prog 39 [.ref 1000 0 a0.length,.i a1,.ref 1001 0 a2.length] [(1000,R76 a0),(1001,R76 a2)] [] (.ref 1000 0 r.length) [(1000,.arr 76 2 (r.map cS76))] :=
 ins_funM cS76 (fun _ => rfl) a0 a2 a1 r h
def d40 (_ : Nat) (a0 : (List S76)) : Option (List S76) := if a0.length * 40 ≤ Rp.reach then some a0 else none
theorem p40 (N : Nat) (a0 : (List S76)) (r : (List S76)) (h : d40 N a0 = some r) : FunC Try.prog 40 [.s76 a0] (.s76 r) := by
 obtain ⟨hz,h⟩ := gsome h
 cases h
 refine FunC.enter 8 [(0,.s76 a0)] (by simp) Try.func40 rfl (of_decide_eq_true rfl) rfl rfl ?_
 refine .goR [] 1 fun K k => ?_;simp;refine k _ ?_;clear k K
 refine .seq (.seqR ?_)
 refine .rr 1 ?_
 refine .eqNilE (es := a0.map cS76) (by simp) rfl ty55 rfl (by simp) (by simp) fun b hb => ?_
 refine .nil ?_
 cases b with
 | true =>
  have he : a0 = [] := by
   cases a0 with
   | nil => rfl
   | cons x xs => exact absurd (hb (by simp)) (by simp)
  subst he
  refine .condK fun K1 K2 k1 k2 => ?_;simp;refine k1 ?_;clear k1 k2 K1 K2
  refine .goR [] 1 fun K k => ?_;simp;refine k _ ?_;clear k K
  refine .sub (.wk 2 rfl) ?_
  refine .st (mk 8 [] [(2,.d (.sl []))] []) (.ret ?_)
  exact thenQ_pass (by simp) (FinC.ret (by simp) (by simp))
 | false =>
  refine .condK fun K1 K2 k1 k2 => ?_;simp;refine k2 ?_;clear k1 k2 K1 K2
  refine .skip (thenQ_normal ?_)
  refine .goR [] 4 fun K k => ?_;simp [hz];refine k _ ?_;clear k K
  refine .tt [(2,.ref 5 0 a0.length)] [(5,R76 a0)] ?_
  refine .sub (.freeze 5 rfl) ?_
  refine .st (mk 8 [] [(2,.s76 a0)] []) (.ret ?_)
  exact FinC.rs
end Go.Proofs.Ytfdhaigfonolpaa
