/- Functions of the program as functional programs; the code computes them. -/
import Derived.Test.YtifcmomjjkbboacMv0
namespace Go.Proofs.Ytifcmomjjkbboac
open Go.Ab Go.Rp
attribute [-simp] List.all_eq_true Array.all_toList Array.all_eq_true

/-- stemma/mvcc.New -/
def d4 (_N : Nat)  : Option (Option S63) :=
 some (some (S63.mk ([] : List S72) 0))
set_option maxRecDepth 100000 in
set_option maxHeartbeats 4000000 in
theorem p4 (N : Nat)  (r : (Option S63)) (h : d4 N  = some r) : FunM Try.prog 4 [] [] [] ((match (generalizing := false) r with | none => V.d (.lit (.pointer none)) | some _ => V.ptr 1000 0 0)) ([] ++ (match (generalizing := false) r with | none => [] | some o => [(1000, (.box [.ref 25000 0 o.chains.length, .i o.horizon])), (25000, (.nest 72 2 [none, some (67, 3)] (o.chains.map cS72) []))])) := by
 unfold d4 at h
 refine FunM.enter 3 [] Try.func4 rfl (of_decide_eq_true rfl) rfl rfl ?_
 refine AW.seqR ?_
 refine Chain.runK [] 1 fun K hK => ?_; simp; refine hK _ _ ?_; clear hK K
 refine Chain.sub (S' := mk 3 [] [] []) Sub.tt ?_
 refine Chain.nil ?_
 refine AW.seqR ?_
 refine Chain.runK [] 2 fun K hK => ?_; simp; refine hK _ _ ?_; clear hK K
 refine Chain.sub (S' := mk 3 [] [(2, .ptr 2 0 0)] [(2, some (.box [.d (.lit (.slice none 0 0)), .i 0]))]) Sub.tt ?_
 refine Chain.sub (Sub.nilOwnBoxN (bid := 2) (j := 0) (id := 5040) (T := 72) (n := 2) [none, some (67, 3)] rfl rfl (by decide) rfl (by decide) rfl) ?_
 refine Chain.sub (S' := mk 3 [] [(2, .ptr 2 0 0)] [(2, some (.box [.ref 5040 0 (([] : List S72).length), .i 0])), (5040, some (.nest 72 2 [none, some (67, 3)] (([] : List S72).map cS72) []))]) (by simp; exact Sub.table (by simp) (by simp)) ?_
 refine Chain.runK [] 1 fun K hK => ?_; simp; refine hK _ _ ?_; clear hK K
 refine Chain.sub (S' := mk 3 [] [(0, .ptr 2 0 0)] [(2, some (.box [.ref 5040 0 (([] : List S72).length), .i 0])), (5040, some (.nest 72 2 [none, some (67, 3)] (([] : List S72).map cS72) []))]) Sub.tt ?_
 refine Chain.nil ?_
 refine AW.sub (S' := mk 3 [] [(0, .ptr 1000 0 0)] [(1000, some (.box [.ref 25000 0 (([] : List S72).length), .i 0])), (25000, some (.nest 72 2 [none, some (67, 3)] (([] : List S72).map cS72) []))]) (Sub.names [(2, 1000), (5040, 25000)] (by simp) (by simp) (by simp [back]) (by simp [V.rnm, lk2]) (by simp [back, Blk.rnm, V.rnm, rnmL, lk2])) ?_
 refine AW.ret ?_
 cases h
 exact FinF.ret (by simp) (by simp)

/-- stemma/stemlaw5.sampleRow -/
def d6 (_N : Nat)  : Option (List S53) :=
 some ([(S53.mk 1 5 (ByteArray.mk #[]))] : List S53)
set_option maxRecDepth 100000 in
set_option maxHeartbeats 4000000 in
theorem p6 (N : Nat)  (r : (List S53)) (h : d6 N  = some r) : FunC Try.prog 6 [] (.d (.sl (r.map cS53))) := by
 unfold d6 at h
 refine FunC.enter 3 [] (by simp) Try.func6 rfl (of_decide_eq_true rfl) rfl rfl ?_
 refine AW.seqR ?_
 refine Chain.runK [] 1 fun K hK => ?_; simp; refine hK _ _ ?_; clear hK K
 refine Chain.sub (S' := mk 3 [] [] []) Sub.tt ?_
 refine Chain.nil ?_
 refine AW.seqR ?_
 refine Chain.runK [] 3 fun K hK => ?_; simp; refine hK _ _ ?_; clear hK K
 refine Chain.sub (S' := mk 3 [] [(0, .ref 2 0 (([(S53.mk 1 5 (ByteArray.mk #[]))] : List S53).length))] [(2, R53 ([(S53.mk 1 5 (ByteArray.mk #[]))] : List S53))]) Sub.tt ?_
 refine Chain.nil ?_
 refine AW.sub (Sub.freeze 2 rfl) ?_
 refine AW.sub (S' := mk 3 [] [(0, .d (.sl (([(S53.mk 1 5 (ByteArray.mk #[]))] : List S53).map cS53)))] []) (by simp; exact Sub.table (by simp) (by simp)) ?_
 refine AW.ret ?_
 cases h
 exact FinC.ret (by simp) (by simp)

/-- slices.Clone[stemma/api.Row,stemma/api.Value] -/
def d24 (_ : Nat) (a0 : (List S53)) : Option (List S53) := if a0.length * 32 ≤ Rp.reach then some a0 else none
theorem p24 (N : Nat) (a0 : (List S53)) (r : (List S53)) (h : d24 N a0 = some r) : FunO Try.prog 24 [.d (.sl (a0.map cS53))] (.ref 0 0 r.length) (.arr 53 3 (r.map cS53)) := by
 obtain ⟨hz, h⟩ := gsome h
 cases h
 refine FunO.enter 8 [(0, .d (.sl (a0.map cS53)))] Try.func24 rfl (of_decide_eq_true rfl) rfl rfl ?_
 refine AW.goR [] 1 fun K hK => ?_; simp; refine hK _ ?_; clear hK K
 refine AW.seq ?_
 refine AW.seqR ?_
 refine Chain.runK [] 1 fun K hK => ?_; simp; refine hK _ _ ?_; clear hK K
 refine Chain.eqNilE (es := a0.map cS53) (by simp) rfl ty30 rfl (by simp) (by simp) fun b hb => ?_
 refine Chain.nil ?_
 cases b with
 | true =>
  have he : a0 = [] := by
   cases a0 with
   | nil => rfl
   | cons x xs => exact absurd (hb (by simp)) (by simp)
  subst he
  refine AW.condK fun K1 K2 k1 k2 => ?_; simp; refine k1 ?_; clear k1 k2 K1 K2
  refine AW.goR [] 1 fun K hK => ?_; simp; refine hK _ ?_; clear hK K
  refine AW.sub (Sub.nilOwn (t := 2) (id := 902) (T := 53) (n := 3) rfl rfl (by decide)) ?_
  refine AW.sub (S' := mk 8 [] [(2, .ref 902 0 0)] [(902, some (.arr 53 3 []))]) (by simp; exact Sub.table (by simp) (by simp)) ?_
  refine AW.ret ?_
  exact thenQ_pass (by simp) (FinO.ret (.ref 902 0 0) 902 (by simp) (by simp) (by simp) (by simp) rfl)
 | false =>
  refine AW.condK fun K1 K2 k1 k2 => ?_; simp; refine k2 ?_; clear k1 k2 K1 K2
  refine AW.skip ?_
  refine thenQ_normal ?_
  refine AW.goR [] 4 fun K hK => ?_; simp [hz]; refine hK _ ?_; clear hK K
  refine AW.sub (S' := mk 8 [] [(2, .ref 5 0 a0.length)] [(5, R53 a0)]) Sub.tt ?_
  refine AW.ret ?_
  exact FinO.ret (.ref 5 0 a0.length) 5 (by simp) (by simp) (by simp) (by simp) rfl

/-- slices.BinarySearchFunc[[]stemma/mvcc.chain,stemma/mvcc.chain,string] -/
def d33 (N : Nat) (a0 : (List S72)) (a1 : ByteArray) (p2 : S72 → ByteArray → Option Int) : Option (Int × Bool) :=
 Option.bind (α := Int) (
  iterN (σ := (Int × Int)) (ρ := Int) (fun ((v11, v12) : (Int × Int)) =>
   if v11 < v12 then (
    (chkI (v11 + v12)).bind fun v37 =>
    letv (IntKind.u64.wrap (v37)) fun v38 =>
    letv (shrI v38 1) fun v39 =>
    (chkI (v39)).bind fun v40 =>
    (idx a0 v40).bind fun x41 =>
    (p2 x41 a1).bind fun r43 =>
    if r43 < 0 then (
     (chkI (v40 + 1)).bind fun v45 =>
     some (.inl (v45, v12))
    ) else
    some (.inl (v11, v40))
   ) else
   some (.inr v11)
  ) N (0, (a0.length : Int))
 ) fun (v35 : Int) =>
 Option.bind (α := Bool) (
  if v35 < (a0.length : Int) then (
   (idx a0 v35).bind fun x52 =>
   (p2 x52 a1).bind fun r54 =>
   some (r54 == 0)
  ) else
  some false
 ) fun (v50 : Bool) =>
 some (v35, v50)
set_option maxRecDepth 100000 in
set_option maxHeartbeats 4000000 in
theorem p33 (N : Nat) (a0 : (List S72)) (a1 : ByteArray) (g2 : Nat) (cs2 : List D) (p2 : S72 → ByteArray → Option Int) (ent_2 : Rp.Enters Try.prog g2) (hp2 : ∀ a0 a1 r, p2 a0 a1 = some r → FunC Try.prog g2 ([.agg [.d (.lit (.string a0.key)), .d (.sl (a0.versions.map cS67))], .d (.lit (.string a1))] ++ cs2.map .d) (.i r)) (r : (Int × Bool)) (h : d33 N a0 a1 p2 = some r) : FunC Try.prog 33 [.d (.sl (a0.map cS72)), .d (.lit (.string a1)), .fn (.func g2) (cs2.map .d)] (.tup [.i r.1, .b r.2]) := by
 unfold d33 at h
 refine FunC.enter 49 [(0, .d (.sl (a0.map cS72))), (1, .d (.lit (.string a1))), (2, .fn (.func g2) (cs2.map .d))] (by simp) Try.func33 rfl (of_decide_eq_true rfl) rfl rfl ?_
 refine AW.seqR ?_
 refine Chain.runK [] 2 fun K hK => ?_; simp; refine hK _ _ ?_; clear hK K
 refine Chain.sub (S' := mk 49 [] [(0, .d (.sl (a0.map cS72))), (1, .d (.lit (.string a1))), (2, .fn (.func g2) (cs2.map .d))] []) Sub.tt ?_
 refine Chain.nil ?_
 refine AW.seqR ?_
 refine Chain.runK [] 3 fun K hK => ?_; simp; refine hK _ _ ?_; clear hK K
 refine Chain.sub (S' := mk 49 [] [(0, .d (.sl (a0.map cS72))), (1, .d (.lit (.string a1))), (2, .fn (.func g2) (cs2.map .d)), (8, .i (a0.length : Int))] []) Sub.tt ?_
 refine Chain.nil ?_
 refine AW.seqR ?_
 refine Chain.runK [] 3 fun K hK => ?_; simp; refine hK _ _ ?_; clear hK K
 refine Chain.sub (S' := mk 49 [] [(0, .d (.sl (a0.map cS72))), (1, .d (.lit (.string a1))), (2, .fn (.func g2) (cs2.map .d)), (8, .i (a0.length : Int)), (9, .i 0), (10, .i (a0.length : Int))] []) Sub.tt ?_
 refine Chain.nil ?_
 refine AW.seqN (fun (v35 : Int) => mk 49 [] [(0, .d (.sl (a0.map cS72))), (1, .d (.lit (.string a1))), (2, .fn (.func g2) (cs2.map .d)), (8, .i (a0.length : Int)), (9, .i v35)] []) h ?_ ?_ <;> clear h
 ·intro o h
  refine AW.block ?_
  refine AW.iter (fun ((v11, v12) : (Int × Int)) => mk 49 [] [(0, .d (.sl (a0.map cS72))), (1, .d (.lit (.string a1))), (2, .fn (.func g2) (cs2.map .d)), (8, .i (a0.length : Int)), (9, .i v11), (10, .i v12)] []) h Sub.tt ?_
  clear h
  rintro ⟨v11, v12⟩ x h
  dsimp only at h ⊢
  refine AW.seq ?_
  refine AW.seqR ?_
  refine Chain.runK [] 3 fun K hK => ?_; simp; refine hK _ _ ?_; clear hK K
  refine Chain.sub (S' := mk 49 [] [(0, .d (.sl (a0.map cS72))), (1, .d (.lit (.string a1))), (2, .fn (.func g2) (cs2.map .d)), (8, .i (a0.length : Int)), (9, .i v11), (10, .i v12), (17, .b (decide (v11 < v12)))] []) Sub.tt ?_
  refine Chain.nil ?_
  replace h := isome h; rcases h with ⟨c36, h⟩ | ⟨c36, h⟩
  ·have c36_ : decide (v11 < v12) = true := decide_eq_true c36
   refine AW.condT (b := decide (v11 < v12)) rfl c36_ ?_
   refine AW.sub (Sub.bool 17 (b := decide (v11 < v12)) rfl c36_) ?_
   refine AW.sub (S' := mk 49 [] [(0, .d (.sl (a0.map cS72))), (1, .d (.lit (.string a1))), (2, .fn (.func g2) (cs2.map .d)), (8, .i (a0.length : Int)), (9, .i v11), (10, .i v12), (17, .b true)] []) (by simp; exact Sub.table (by simp) (by simp)) ?_
   refine AW.skip ?_
   refine thenQ_normal ?_
   refine AW.block ?_
   refine AW.seqR ?_
   replace h := bsome h; obtain ⟨v37, hv37, h⟩ := h
   have hv37 := chkI_some hv37
   replace h := lsome h; obtain ⟨v38, hv38, h⟩ := h
   replace h := lsome h; obtain ⟨v39, hv39, h⟩ := h
   replace h := bsome h; obtain ⟨v40, hv40, h⟩ := h
   have hv40 := chkI_some hv40
   refine Chain.runK [] 7 fun K hK => ?_; simp [hv37, hv38, hv39, IntKind.bits, hv40]; refine hK _ _ ?_; clear hK K
   refine Chain.sub (S' := mk 49 [] [(0, .d (.sl (a0.map cS72))), (1, .d (.lit (.string a1))), (2, .fn (.func g2) (cs2.map .d)), (8, .i (a0.length : Int)), (9, .i v11), (10, .i v12), (11, .i v40)] []) Sub.tt ?_
   refine Chain.nil ?_
   refine AW.seqR ?_
   replace h := bsome h; obtain ⟨x41, hx41, h⟩ := h
   obtain ⟨k42, hx41k, hx41, hx41a, hx41b⟩ := idx_some hx41
   refine Chain.runK [] 6 fun K hK => ?_; simp [hx41, hx41k, hx41a]; refine hK _ _ ?_; clear hK K
   refine Chain.sub (S' := mk 49 [] [(0, .d (.sl (a0.map cS72))), (1, .d (.lit (.string a1))), (2, .fn (.func g2) (cs2.map .d)), (8, .i (a0.length : Int)), (9, .i v11), (10, .i v12), (11, .i v40), (24, .fn (.func g2) (cs2.map .d)), (28, .agg [.d (.lit (.string x41.key)), .d (.sl (x41.versions.map cS67))]), (29, .d (.lit (.string a1)))] []) Sub.tt ?_
   replace h := bsome h; obtain ⟨r43, hr43, h⟩ := h
   refine Chain.callL (d := 30) (hp2 x41 a1 r43 hr43) (by simp) rfl rfl (by simp <;> rfl) (by simp <;> rfl) ent_2 (by simp <;> rfl) ?_
   refine Chain.sub (S' := mk 49 [] [(0, .d (.sl (a0.map cS72))), (1, .d (.lit (.string a1))), (2, .fn (.func g2) (cs2.map .d)), (8, .i (a0.length : Int)), (9, .i v11), (10, .i v12), (11, .i v40), (24, .fn (.func g2) (cs2.map .d)), (28, .agg [.d (.lit (.string x41.key)), .d (.sl (x41.versions.map cS67))]), (29, .d (.lit (.string a1))), (30, .i r43)] []) (by simp; exact Sub.table (by simp) (by simp)) ?_
   refine Chain.runK [] 1 fun K hK => ?_; simp; refine hK _ _ ?_; clear hK K
   refine Chain.sub (S' := mk 49 [] [(0, .d (.sl (a0.map cS72))), (1, .d (.lit (.string a1))), (2, .fn (.func g2) (cs2.map .d)), (8, .i (a0.length : Int)), (9, .i v11), (10, .i v12), (11, .i v40), (31, .b (decide (r43 < 0)))] []) Sub.tt ?_
   refine Chain.nil ?_
   replace h := isome h; rcases h with ⟨c44, h⟩ | ⟨c44, h⟩
   ·have c44_ : decide (r43 < 0) = true := decide_eq_true c44
    refine AW.condT (b := decide (r43 < 0)) rfl c44_ ?_
    refine AW.sub (Sub.bool 31 (b := decide (r43 < 0)) rfl c44_) ?_
    refine AW.sub (S' := mk 49 [] [(0, .d (.sl (a0.map cS72))), (1, .d (.lit (.string a1))), (2, .fn (.func g2) (cs2.map .d)), (8, .i (a0.length : Int)), (9, .i v11), (10, .i v12), (11, .i v40), (31, .b true)] []) (by simp; exact Sub.table (by simp) (by simp)) ?_
    refine AW.region ?_
    replace h := bsome h; obtain ⟨v45, hv45, h⟩ := h
    have hv45 := chkI_some hv45
    refine Chain.runK [] 3 fun K hK => ?_; simp [hv45]; refine hK _ _ ?_; clear hK K
    refine Chain.sub (S' := mk 49 [] [(0, .d (.sl (a0.map cS72))), (1, .d (.lit (.string a1))), (2, .fn (.func g2) (cs2.map .d)), (8, .i (a0.length : Int)), (9, .i v45), (10, .i v12)] []) Sub.tt ?_
    refine Chain.nil ?_
    cases h
    refine blockQ.normal ?_
    refine PostI.next ?_
    exact Sub.tt
   ·have c44_ : decide (r43 < 0) = false := decide_eq_false c44
    refine AW.condF (b := decide (r43 < 0)) rfl c44_ ?_
    refine AW.sub (Sub.bool 31 (b := decide (r43 < 0)) rfl c44_) ?_
    refine AW.sub (S' := mk 49 [] [(0, .d (.sl (a0.map cS72))), (1, .d (.lit (.string a1))), (2, .fn (.func g2) (cs2.map .d)), (8, .i (a0.length : Int)), (9, .i v11), (10, .i v12), (11, .i v40), (31, .b false)] []) (by simp; exact Sub.table (by simp) (by simp)) ?_
    refine AW.region ?_
    refine Chain.runK [] 2 fun K hK => ?_; simp; refine hK _ _ ?_; clear hK K
    refine Chain.sub (S' := mk 49 [] [(0, .d (.sl (a0.map cS72))), (1, .d (.lit (.string a1))), (2, .fn (.func g2) (cs2.map .d)), (8, .i (a0.length : Int)), (9, .i v11), (10, .i v40)] []) Sub.tt ?_
    refine Chain.nil ?_
    cases h
    refine blockQ.normal ?_
    refine PostI.next ?_
    exact Sub.tt
  ·have c36_ : decide (v11 < v12) = false := decide_eq_false c36
   refine AW.condF (b := decide (v11 < v12)) rfl c36_ ?_
   refine AW.sub (Sub.bool 17 (b := decide (v11 < v12)) rfl c36_) ?_
   refine AW.sub (S' := mk 49 [] [(0, .d (.sl (a0.map cS72))), (1, .d (.lit (.string a1))), (2, .fn (.func g2) (cs2.map .d)), (8, .i (a0.length : Int)), (9, .i v11), (10, .i v12), (17, .b false)] []) (by simp; exact Sub.table (by simp) (by simp)) ?_
   refine AW.exit ?_
   cases h
   refine thenQ_pass (by simp) ?_
   refine PostI.out (by simp) ?_
   rintro rfl
   refine blockQ.hit ?_
   refine PostN.next ?_
   exact Sub.tt
 ·rintro v35 h
  replace h := bsome h; obtain ⟨v50, hj, h⟩ := h
  refine AW.cutR (mk 49 [] [(6, .i v35), (7, .b v50)] []) ?_ ?_
  ·clear h; have h := hj; clear hj
   refine Chain.runK [] 5 fun K hK => ?_; simp; refine hK _ _ ?_; clear hK K
   refine Chain.sub (S' := mk 49 [] [(0, .d (.sl (a0.map cS72))), (1, .d (.lit (.string a1))), (2, .fn (.func g2) (cs2.map .d)), (9, .i v35), (35, .i v35), (39, .b (decide (v35 < (a0.length : Int))))] []) Sub.tt ?_
   replace h := isome h; rcases h with ⟨c51, h⟩ | ⟨c51, h⟩
   ·have c51_ : decide (v35 < (a0.length : Int)) = true := decide_eq_true c51
    refine Chain.sub (Sub.bool 39 (b := decide (v35 < (a0.length : Int))) rfl c51_) ?_
    refine Chain.sub (S' := mk 49 [] [(0, .d (.sl (a0.map cS72))), (1, .d (.lit (.string a1))), (2, .fn (.func g2) (cs2.map .d)), (9, .i v35), (35, .i v35), (39, .b true)] []) (by simp; exact Sub.table (by simp) (by simp)) ?_
    replace h := bsome h; obtain ⟨x52, hx52, h⟩ := h
    obtain ⟨k53, hx52k, hx52, hx52a, hx52b⟩ := idx_some hx52
    refine Chain.runK [] 6 fun K hK => ?_; simp [hx52, hx52k, hx52a]; refine hK _ _ ?_; clear hK K
    refine Chain.sub (S' := mk 49 [] [(35, .i v35), (39, .b true), (40, .fn (.func g2) (cs2.map .d)), (44, .agg [.d (.lit (.string x52.key)), .d (.sl (x52.versions.map cS67))]), (45, .d (.lit (.string a1)))] []) Sub.tt ?_
    replace h := bsome h; obtain ⟨r54, hr54, h⟩ := h
    refine Chain.callL (d := 46) (hp2 x52 a1 r54 hr54) (by simp) rfl rfl (by simp <;> rfl) (by simp <;> rfl) ent_2 (by simp <;> rfl) ?_
    refine Chain.sub (S' := mk 49 [] [(35, .i v35), (39, .b true), (40, .fn (.func g2) (cs2.map .d)), (44, .agg [.d (.lit (.string x52.key)), .d (.sl (x52.versions.map cS67))]), (45, .d (.lit (.string a1))), (46, .i r54)] []) (by simp; exact Sub.table (by simp) (by simp)) ?_
    refine Chain.runK [] 4 fun K hK => ?_; simp; refine hK _ _ ?_; clear hK K
    refine Chain.sub (S' := mk 49 [] [(6, .i v35), (7, .b (r54 == 0))] []) Sub.tt ?_
    cases h
    exact Chain.nil Sub.tt
   ·have c51_ : decide (v35 < (a0.length : Int)) = false := decide_eq_false c51
    refine Chain.sub (Sub.bool 39 (b := decide (v35 < (a0.length : Int))) rfl c51_) ?_
    refine Chain.sub (S' := mk 49 [] [(0, .d (.sl (a0.map cS72))), (1, .d (.lit (.string a1))), (2, .fn (.func g2) (cs2.map .d)), (9, .i v35), (35, .i v35), (39, .b false)] []) (by simp; exact Sub.table (by simp) (by simp)) ?_
    refine Chain.runK [] 11 fun K hK => ?_; simp; refine hK _ _ ?_; clear hK K
    refine Chain.sub (S' := mk 49 [] [(6, .i v35), (7, .b false)] []) Sub.tt ?_
    cases h
    exact Chain.nil Sub.tt
  ·clear hj
   refine AW.ret ?_
   cases h
   exact FinC.ret (by simp) (by simp)

def d40 (_N : Nat) (a0 a1 : ByteArray) : Option Int := some (Lib.compareBytes a0.data.toList a1.data.toList)
theorem p40 (N : Nat) (a0 a1 : ByteArray) (r : Int) (h : d40 N a0 a1 = some r) : FunC Try.prog 40 [.d (.lit (.string a0)), .d (.lit (.string a1))] (.i r) := by
 injection h with h; subst h
 exact FunC.of_calls (vals := [.string a0, .string a1]) (by rintro E w vs ⟨_, _, rfl, ⟨rfl, _⟩, _, _, rfl, ⟨rfl, _⟩, rfl⟩; rfl) rfl (fun w _ => (Try.bytealg_CompareString a0 a1 w).mono (by rintro e w2 ⟨rfl, rfl⟩; exact ⟨rfl, .refl _ _⟩))

/-- strings.Compare -/
def d35 (N : Nat) (a0 : ByteArray) (a1 : ByteArray) : Option Int :=
 (d40 N a0 a1).bind fun r1 =>
 some r1
set_option maxRecDepth 100000 in
set_option maxHeartbeats 4000000 in
theorem p35 (N : Nat) (a0 : ByteArray) (a1 : ByteArray) (r : Int) (h : d35 N a0 a1 = some r) : FunC Try.prog 35 [.d (.lit (.string a0)), .d (.lit (.string a1))] (.i r) := by
 unfold d35 at h
 refine FunC.enter 8 [(0, .d (.lit (.string a0))), (1, .d (.lit (.string a1)))] (by simp) Try.func35 rfl (of_decide_eq_true rfl) rfl rfl ?_
 refine AW.seqR ?_
 refine Chain.runK [] 1 fun K hK => ?_; simp; refine hK _ _ ?_; clear hK K
 refine Chain.sub (S' := mk 8 [] [(0, .d (.lit (.string a0))), (1, .d (.lit (.string a1)))] []) Sub.tt ?_
 refine Chain.nil ?_
 refine AW.seqR ?_
 refine Chain.runK [] 2 fun K hK => ?_; simp; refine hK _ _ ?_; clear hK K
 refine Chain.sub (S' := mk 8 [] [(5, .d (.lit (.string a0))), (6, .d (.lit (.string a1)))] []) Sub.tt ?_
 replace h := bsome h; obtain ⟨r1, hr1, h⟩ := h
 refine Chain.callL (d := 7) (p40 N a0 a1 r1 hr1) (by simp) rfl rfl (by simp <;> rfl) (by simp <;> rfl) ent40 (by simp <;> rfl) ?_
 refine Chain.sub (S' := mk 8 [] [(5, .d (.lit (.string a0))), (6, .d (.lit (.string a1))), (7, .i r1)] []) (by simp; exact Sub.table (by simp) (by simp)) ?_
 refine Chain.runK [] 1 fun K hK => ?_; simp; refine hK _ _ ?_; clear hK K
 refine Chain.sub (S' := mk 8 [] [(4, .i r1)] []) Sub.tt ?_
 refine Chain.nil ?_
 refine AW.ret ?_
 cases h
 exact FinC.ret (by simp) (by simp)

/-- (*stemma/mvcc.Store).search$1 -/
def d34 (N : Nat) (a0 : S72) (a1 : ByteArray) : Option Int :=
 (d35 N a0.key a1).bind fun r1 =>
 some r1
set_option maxRecDepth 100000 in
set_option maxHeartbeats 4000000 in
theorem p34 (N : Nat) (a0 : S72) (a1 : ByteArray) (r : Int) (h : d34 N a0 a1 = some r) : FunC Try.prog 34 [.agg [.d (.lit (.string a0.key)), .d (.sl (a0.versions.map cS67))], .d (.lit (.string a1))] (.i r) := by
 unfold d34 at h
 refine FunC.enter 9 [(0, .agg [.d (.lit (.string a0.key)), .d (.sl (a0.versions.map cS67))]), (1, .d (.lit (.string a1)))] (by simp) Try.func34 rfl (of_decide_eq_true rfl) rfl rfl ?_
 refine AW.seqR ?_
 refine Chain.runK [] 2 fun K hK => ?_; simp; refine hK _ _ ?_; clear hK K
 refine Chain.sub (S' := mk 9 [] [(1, .d (.lit (.string a1))), (2, .ptr 2 0 0)] [(2, some (.box [.d (.lit (.string a0.key)), .d (.sl (a0.versions.map cS67))]))]) Sub.tt ?_
 refine Chain.nil ?_
 refine AW.seqR ?_
 refine Chain.runK [] 3 fun K hK => ?_; simp; refine hK _ _ ?_; clear hK K
 refine Chain.sub (S' := mk 9 [] [(6, .d (.lit (.string a0.key))), (7, .d (.lit (.string a1)))] []) Sub.tt ?_
 replace h := bsome h; obtain ⟨r1, hr1, h⟩ := h
 refine Chain.callL (d := 8) (p35 N a0.key a1 r1 hr1) (by simp) rfl rfl (by simp <;> rfl) (by simp <;> rfl) ent35 (by simp <;> rfl) ?_
 refine Chain.sub (S' := mk 9 [] [(6, .d (.lit (.string a0.key))), (7, .d (.lit (.string a1))), (8, .i r1)] []) (by simp; exact Sub.table (by simp) (by simp)) ?_
 refine Chain.runK [] 1 fun K hK => ?_; simp; refine hK _ _ ?_; clear hK K
 refine Chain.sub (S' := mk 9 [] [(4, .i r1)] []) Sub.tt ?_
 refine Chain.nil ?_
 refine AW.ret ?_
 cases h
 exact FinC.ret (by simp) (by simp)

/-- (*stemma/mvcc.Store).search -/
def d25 (N : Nat) (a0 : S63) (a1 : ByteArray) : Option (Int × Bool) :=
 (d33 N a0.chains a1 (fun b0 b1 => d34 N b0 b1 )).bind fun r1 =>
 some (r1.1, r1.2)
set_option maxRecDepth 100000 in
set_option maxHeartbeats 4000000 in
theorem p25 (N : Nat) (a0 : S63) (a1 : ByteArray) (r : (Int × Bool)) (h : d25 N a0 a1 = some r) : FunC Try.prog 25 [.d (.pim [.sl (a0.chains.map cS72), .lit (.int .i64 a0.horizon)]), .d (.lit (.string a1))] (.tup [.i r.1, .b r.2]) := by
 unfold d25 at h
 refine FunC.enter 14 [(0, .d (.pim [.sl (a0.chains.map cS72), .lit (.int .i64 a0.horizon)])), (1, .d (.lit (.string a1)))] (by simp) Try.func25 rfl (of_decide_eq_true rfl) rfl rfl ?_
 refine AW.seqR ?_
 refine Chain.runK [] 2 fun K hK => ?_; simp; refine hK _ _ ?_; clear hK K
 refine Chain.sub (S' := mk 14 [] [(0, .d (.pim [.sl (a0.chains.map cS72), .lit (.int .i64 a0.horizon)])), (1, .d (.lit (.string a1)))] []) Sub.tt ?_
 refine Chain.nil ?_
 refine AW.seqR ?_
 refine Chain.runK [] 5 fun K hK => ?_; simp; refine hK _ _ ?_; clear hK K
 refine Chain.sub (S' := mk 14 [] [(9, .d (.sl (a0.chains.map cS72))), (10, .d (.lit (.string a1)))] []) Sub.tt ?_
 replace h := bsome h; obtain ⟨r1, hr1, h⟩ := h
 refine Chain.callL (d := 11) (FunC.argsF (args := [.d (.sl (a0.chains.map cS72)), .d (.lit (.string a1)), .d (.lit (.func (.func 34) #[] #[]))]) (p33 N a0.chains a1 34 [] (fun b0 b1 => d34 N b0 b1 ) ent34 (fun b0 b1 r h => p34 N b0 b1  r h) r1 hr1) (by simp [V.wf]) rfl) (by simp) rfl rfl (by simp <;> rfl) (by simp <;> rfl) ent33 (by simp <;> rfl) ?_
 refine Chain.sub (S' := mk 14 [] [(9, .d (.sl (a0.chains.map cS72))), (10, .d (.lit (.string a1))), (11, .tup [.i r1.1, .b r1.2])] []) (by simp; exact Sub.table (by simp) (by simp)) ?_
 refine Chain.runK [] 4 fun K hK => ?_; simp; refine hK _ _ ?_; clear hK K
 refine Chain.sub (S' := mk 14 [] [(4, .i r1.1), (5, .b r1.2)] []) Sub.tt ?_
 refine Chain.nil ?_
 refine AW.ret ?_
 cases h
 exact FinC.ret (by simp) (by simp)

/-- (*stemma/mvcc.Store).Len -/
def d21 (N : Nat) (a0 : S63) : Option Int :=
 Option.bind (α := Int) (
  iterN (σ := (Int × Int)) (ρ := Int) (fun ((v5, v6) : (Int × Int)) =>
   if v6 < (a0.chains.length : Int) then (
    (idx a0.chains v6).bind fun x21 =>
    (chkI (v5 + (x21.versions.length : Int))).bind fun v23 =>
    (chkI (v6 + 1)).bind fun v24 =>
    some (.inl (v23, v24))
   ) else
   some (.inr v5)
  ) N (0, 0)
 ) fun (v19 : Int) =>
 some v19
set_option maxRecDepth 100000 in
set_option maxHeartbeats 4000000 in
theorem p21 (N : Nat) (a0 : S63) (r : Int) (h : d21 N a0 = some r) : FunC Try.prog 21 [.d (.pim [.sl (a0.chains.map cS72), .lit (.int .i64 a0.horizon)])] (.i r) := by
 unfold d21 at h
 refine FunC.enter 22 [(0, .d (.pim [.sl (a0.chains.map cS72), .lit (.int .i64 a0.horizon)]))] (by simp) Try.func21 rfl (of_decide_eq_true rfl) rfl rfl ?_
 refine AW.seqR ?_
 refine Chain.runK [] 1 fun K hK => ?_; simp; refine hK _ _ ?_; clear hK K
 refine Chain.sub (S' := mk 22 [] [(0, .d (.pim [.sl (a0.chains.map cS72), .lit (.int .i64 a0.horizon)]))] []) Sub.tt ?_
 refine Chain.nil ?_
 refine AW.seqR ?_
 refine Chain.runK [] 1 fun K hK => ?_; simp; refine hK _ _ ?_; clear hK K
 refine Chain.sub (S' := mk 22 [] [(0, .d (.pim [.sl (a0.chains.map cS72), .lit (.int .i64 a0.horizon)])), (3, .i 0)] []) Sub.tt ?_
 refine Chain.nil ?_
 refine AW.seq ?_
 refine AW.seqR ?_
 refine Chain.runK [] 6 fun K hK => ?_; simp; refine hK _ _ ?_; clear hK K
 refine Chain.sub (S' := mk 22 [] [(3, .i 0), (9, .d (.sl (a0.chains.map cS72))), (10, .i (a0.chains.length : Int)), (11, .i 0)] []) Sub.tt ?_
 refine Chain.nil ?_
 refine AW.lastN (fun (v19 : Int) => mk 22 [] [(3, .i v19)] []) h ?_ ?_ <;> clear h
 ·intro o h
  refine AW.block ?_
  refine AW.iter (fun ((v5, v6) : (Int × Int)) => mk 22 [] [(3, .i v5), (9, .d (.sl (a0.chains.map cS72))), (10, .i (a0.chains.length : Int)), (11, .i v6)] []) h Sub.tt ?_
  clear h
  rintro ⟨v5, v6⟩ x h
  dsimp only at h ⊢
  refine AW.seqR ?_
  refine Chain.runK [] 1 fun K hK => ?_; simp; refine hK _ _ ?_; clear hK K
  refine Chain.sub (S' := mk 22 [] [(3, .i v5), (9, .d (.sl (a0.chains.map cS72))), (10, .i (a0.chains.length : Int)), (11, .i v6), (12, .b (decide (v6 < (a0.chains.length : Int))))] []) Sub.tt ?_
  refine Chain.nil ?_
  refine AW.seq ?_
  replace h := isome h; rcases h with ⟨c20, h⟩ | ⟨c20, h⟩
  ·have c20_ : decide (v6 < (a0.chains.length : Int)) = true := decide_eq_true c20
   refine AW.condT (b := decide (v6 < (a0.chains.length : Int))) rfl c20_ ?_
   refine AW.sub (Sub.bool 12 (b := decide (v6 < (a0.chains.length : Int))) rfl c20_) ?_
   refine AW.sub (S' := mk 22 [] [(3, .i v5), (9, .d (.sl (a0.chains.map cS72))), (10, .i (a0.chains.length : Int)), (11, .i v6), (12, .b true)] []) (by simp; exact Sub.table (by simp) (by simp)) ?_
   refine AW.skip ?_
   refine thenQ_normal ?_
   refine AW.seq ?_
   refine AW.block ?_
   refine AW.seqR ?_
   replace h := bsome h; obtain ⟨x21, hx21, h⟩ := h
   obtain ⟨k22, hx21k, hx21, hx21a, hx21b⟩ := idx_some hx21
   refine Chain.runK [] 4 fun K hK => ?_; simp [hx21, hx21k, hx21a]; refine hK _ _ ?_; clear hK K
   refine Chain.sub (S' := mk 22 [] [(3, .i v5), (5, .ptr 5 0 0), (9, .d (.sl (a0.chains.map cS72))), (10, .i (a0.chains.length : Int)), (11, .i v6)] [(5, some (.box [.d (.lit (.string x21.key)), .d (.sl (x21.versions.map cS67))]))]) Sub.tt ?_
   refine Chain.nil ?_
   refine AW.region ?_
   replace h := bsome h; obtain ⟨v23, hv23, h⟩ := h
   have hv23 := chkI_some hv23
   refine Chain.runK [] 6 fun K hK => ?_; simp [hv23]; refine hK _ _ ?_; clear hK K
   refine Chain.sub (S' := mk 22 [] [(3, .i v23), (9, .d (.sl (a0.chains.map cS72))), (10, .i (a0.chains.length : Int)), (11, .i v6)] []) Sub.tt ?_
   refine Chain.nil ?_
   refine blockQ.normal ?_
   refine thenQ_normal ?_
   refine AW.region ?_
   replace h := bsome h; obtain ⟨v24, hv24, h⟩ := h
   have hv24 := chkI_some hv24
   refine Chain.runK [] 2 fun K hK => ?_; simp [hv24]; refine hK _ _ ?_; clear hK K
   refine Chain.sub (S' := mk 22 [] [(3, .i v23), (9, .d (.sl (a0.chains.map cS72))), (10, .i (a0.chains.length : Int)), (11, .i v24)] []) Sub.tt ?_
   refine Chain.nil ?_
   cases h
   refine PostI.next ?_
   exact Sub.tt
  ·have c20_ : decide (v6 < (a0.chains.length : Int)) = false := decide_eq_false c20
   refine AW.condF (b := decide (v6 < (a0.chains.length : Int))) rfl c20_ ?_
   refine AW.sub (Sub.bool 12 (b := decide (v6 < (a0.chains.length : Int))) rfl c20_) ?_
   refine AW.sub (S' := mk 22 [] [(3, .i v5), (9, .d (.sl (a0.chains.map cS72))), (10, .i (a0.chains.length : Int)), (11, .i v6), (12, .b false)] []) (by simp; exact Sub.table (by simp) (by simp)) ?_
   refine AW.exit ?_
   cases h
   refine thenQ_pass (by simp) ?_
   refine PostI.out (by simp) ?_
   rintro rfl
   refine blockQ.hit ?_
   refine PostN.next ?_
   exact Sub.tt
 ·rintro v19 h
  refine thenQ_normal ?_
  refine AW.seqR ?_
  refine Chain.runK [] 2 fun K hK => ?_; simp; refine hK _ _ ?_; clear hK K
  refine Chain.sub (S' := mk 22 [] [(2, .i v19)] []) Sub.tt ?_
  refine Chain.nil ?_
  refine AW.ret ?_
  cases h
  exact FinC.ret (by simp) (by simp)

/-- slices.Insert of one element -/
def d32 (_N : Nat) (a0 : List S72) (a1 : Int) (a2 : List S72) : Option (List S72) := insL 40 a0 a1 a2
theorem p32 (N : Nat) (a0 : List S72) (a1 : Int) (a2 : List S72) (r : List S72) (h : d32 N a0 a1 a2 = some r) :
  FunM Try.prog 32 [.ref 1000 0 a0.length, .i a1, .ref 1001 0 a2.length] [(1000, some (.nest 72 2 [none, some (67, 3)] (a0.map cS72) [])), (1001, some (.nest 72 2 [none, some (67, 3)] (a2.map cS72) []))] [] (.ref 1000 0 r.length) [(1000, .nest 72 2 [none, some (67, 3)] (r.map cS72) [])] :=
 ins_funM cS72 [none, some (67, 3)] a0 a2 a1 r h

end Go.Proofs.Ytifcmomjjkbboac
