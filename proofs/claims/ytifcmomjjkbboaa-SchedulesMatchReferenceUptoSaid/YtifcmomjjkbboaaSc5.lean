/- Functions of the program as functional programs; the code computes them. -/
import Derived.Test.YtifcmomjjkbboaaSc4
namespace Go.Proofs.Ytifcmomjjkbboaa
open Go.Ab Go.Rp
attribute [-simp] List.all_eq_true Array.all_toList Array.all_eq_true

/-- slices.Delete[[]int,int] -/
def d34 (_ : Nat) (a0 : (List Int)) (a1 a2 : Int) : Option (List Int) := delL a0 a1 a2
theorem p34 (N : Nat) (a0 : (List Int)) (a1 a2 : Int) (r : (List Int)) (h : d34 N a0 a1 a2 = some r) : FunM Try.prog 34 [.ref 1000 0 a0.length, .i a1, .i a2] [(1000, some (.arr 3 1 (a0.map (cI .i64))))] [] (.ref 1000 0 r.length) [(1000, .arr 3 1 (r.map (cI .i64)))] := by
 obtain ⟨i, j, rfl, rfl, hij, hj, hrl, hr⟩ := delL_some (cI .i64) h
 have hes : ∀ x ∈ a0.map (cI .i64), x.length = 1 := fun x hx => by
  obtain ⟨y, _, rfl⟩ := List.mem_map.1 hx
  rfl
 rw [hr, hrl]
 have hel : (a0.map (cI .i64)).length = a0.length := by simp
 rw [← hel] at hj hrl ⊢
 clear hel h hr hrl
 generalize a0.map (cI .i64) = es at *
 refine FunM.enter 33 [(0, .ref 1000 0 es.length), (1, .i i), (2, .i j)] Try.func34 rfl (of_decide_eq_true rfl) rfl rfl ?_
 refine AW.goR [] 1 fun K hK => ?_; simp; refine hK _ ?_; clear hK K
 refine AW.seqR ?_
 refine Chain.runK [] 5 fun K hK => ?_; simp; refine hK _ _ ?_; clear hK K
 have hjn : (j : Int) ≤ es.length := by omega
 have hin : (i : Int) ≤ j := by omega
 refine Chain.slice3 (id := 1000) (off := 0) (len := es.length) (mq := es.length) (hq := j) (lq := i) (by simp) rfl ty40 rfl ty3 rfl (by simp [bnd]) (by simp [bnd, hj]) (by simp [bnd]; omega) ?_
 refine Chain.nil ?_
 have hne : ¬ ((i : Int) = j) := by omega
 refine AW.seq ?_
 refine AW.goR [] 3 fun K hK => ?_; simp; refine hK _ ?_; clear hK K
 refine AW.condK fun K1 K2 k1 k2 => ?_; simp [hne]; refine k2 ?_; clear k1 k2 K1 K2
 refine AW.skip ?_
 refine thenQ_normal ?_
 refine AW.goR [] 3 fun K hK => ?_; simp; refine hK _ ?_; clear hK K
 refine AW.seqT 6 (by kernel_rfl) (by kernel_rfl) fun K hK => ?_
 simp [show i ≤ es.length by omega, hj]; refine hK _ _ ?_; clear hK K
 have htk : List.take (es.length - j) (es.drop j) = es.drop j := List.take_of_length_le (by simp)
 refine Chain.cut (mk 33 [] [(0, .ref 1000 0 (i + (es.length - j))), (7, .i es.length)] [(1000, some (.arr 3 1 (es.take i ++ (es.drop j ++ es.drop (i + (es.length - j))))))]) ?_ fun S' hS => AW.sub hS ?_
 ·by_cases hje : j = es.length
  ·have hdn : es.drop j = [] := by rw [hje]; simp
   refine Chain.appNo (id := 1000) (len := i) (es := es) (te := ⟨_, 1, 8, _⟩) (by simp) rfl rfl rfl rfl ty40 rfl ty3 rfl rfl (by simp [srcV, hje]) (by omega) (by omega) ?_
   refine Chain.runK [] 1 fun K hK => ?_; simp; refine hK _ _ ?_; clear hK K
   refine Chain.nil ?_
   exact Sub.table (by simp [hje]) (by simp [hje])
  ·refine Chain.appIn (id := 1000) (len := i) (es := es) (ys := es.drop j) (te := ⟨_, 1, 8, _⟩) (by simp) rfl rfl rfl rfl ty40 rfl ty3 rfl rfl (by simp [srcV, show j + (es.length - j) ≤ es.length by omega]) (fun y hy => hes y (List.mem_of_mem_drop hy)) (by simp; omega) (by simp; omega) ?_
   refine Chain.runK [] 1 fun K hK => ?_; simp; refine hK _ _ ?_; clear hK K
   refine Chain.nil ?_
   exact Sub.table (by simp) (by simp)
 have hl2 : (es.take i ++ (es.drop j ++ es.drop (i + (es.length - j)))).length = es.length := by simp; omega
 have hes2 : ∀ x ∈ (es.take i ++ (es.drop j ++ es.drop (i + (es.length - j)))), x.length = 1 := fun x hx => by
  rcases List.mem_append.1 hx with hx | hx
  ·exact hes x (List.mem_of_mem_take hx)
  ·rcases List.mem_append.1 hx with hx | hx
   ·exact hes x (List.mem_of_mem_drop hx)
   ·exact hes x (List.mem_of_mem_drop hx)
 have htk2 : (es.take i ++ (es.drop j ++ es.drop (i + (es.length - j)))).take (i + (es.length - j)) = es.take i ++ es.drop j := by
  rw [← List.append_assoc]
  exact List.take_left' (by simp; omega)
 generalize (es.take i ++ (es.drop j ++ es.drop (i + (es.length - j)))) = es2 at hl2 hes2 htk2 ⊢
 refine AW.seqR ?_
 refine Chain.runK [] 4 fun K hK => ?_; simp; refine hK _ _ ?_; clear hK K
 refine Chain.sliceX (id := 1000) (off := 0) (len := i + (es.length - j)) (es := es2) (hq := es.length) (lq := i + (es.length - j)) (te := ⟨_, 1, 8, _⟩) (by simp) rfl ty40 rfl ty3 rfl rfl (by omega) (by omega) (by simp [bnd, hl2]) (by simp [bnd]; omega) ?_
 simp
 refine Chain.clear (id := 1000) (off := i + (es.length - j)) (len := es.length - (i + (es.length - j))) (es := es2) (te := ⟨_, 1, 8, _⟩) (by simp) rfl rfl rfl rfl ty40 rfl ty3 (by simp) (by simp) rfl rfl (by omega) (by omega) ?_
 simp
 refine Chain.nil ?_
 refine AW.goR [] 2 fun K hK => ?_; simp; refine hK _ ?_; clear hK K
 have hcl : ∀ zs : List (List D), List.take (i + (es.length - j)) (es.take i ++ (es.drop j ++ zs)) = es.take i ++ es.drop j := fun zs => by
  rw [← List.append_assoc]
  exact List.take_left' (by simp; omega)
 refine AW.sub (Sub.cut 1000 (i + (es.length - j)) rfl) ?_
 refine AW.sub (S' := mk 33 [] [(6, .ref 1000 0 (i + (es.length - j)))] [(1000, some (.arr 3 1 (es.take i ++ es.drop j)))]) (by simp [htk2]; exact Sub.table (by simp) (by simp [hcl])) ?_
 refine AW.ret ?_
 exact FinF.ret (by simp) (by simp)

/-- stemma/serializability.SerialOrder -/
def d13 (N : Nat) (a0 : (List S27)) : Option ((List Int) × Int) :=
 (d18 N a0).bind fun r1 =>
 if (r1 != 0) then (
  some (([] : List Int), r1)
 ) else
 (d28 N a0).bind fun r3 =>
 (lenL 400 (List.replicate 400 false)).bind fun _ =>
 (lenL 400 r3).bind fun _ =>
 (d29 N a0).bind fun r6 =>
 bindO (β := List Int) (ρ := ((List Int) × Int)) (
  iterN (σ := ((List Int) × (List Int))) (ρ := (Out (List Int) ((List Int) × Int))) (fun ((l15, l16) : ((List Int) × (List Int))) =>
   if (l15.length : Int) > 0 then (
    (d30 N l15 (fun b0 => d31 N b0 l15 r3)).bind fun r37 =>
    if r37 < 0 then (
     some (.inr (.ret (([] : List Int), 14)))
    ) else
    (idx l15 r37).bind fun x39 =>
    (appL 8 l16 [x39]).bind fun _l41 =>
    (chkI (r37 + 1)).bind fun v42 =>
    (d34 N l15 r37 v42).bind fun l43 =>
    some (.inl (l43, (l16 ++ [x39])))
   ) else
   some (.inr (.go l16))
  ) N (r6, ([] : List Int))
 ) fun (l35 : List Int) =>
 some (l35, 0)
set_option maxRecDepth 100000 in
set_option maxHeartbeats 4000000 in
theorem p13 (N : Nat) (a0 : (List S27)) (r : ((List Int) × Int)) (h : d13 N a0 = some r) : FunC Try.prog 13 [.d (.sl (a0.map cS27))] (.tup [.d (.sl (r.1.map (cI .i64))), .i r.2]) := by
 unfold d13 at h
 refine FunC.enter 39 [(0, .d (.sl (a0.map cS27)))] (by simp) Try.func13 rfl (of_decide_eq_true rfl) rfl rfl ?_
 refine AW.seqR ?_
 refine Chain.runK [] 2 fun K hK => ?_; simp; refine hK _ _ ?_; clear hK K
 refine Chain.sub (S' := mk 39 [] [(0, .d (.sl (a0.map cS27)))] []) Sub.tt ?_
 refine Chain.nil ?_
 refine AW.seq ?_
 refine AW.seqR ?_
 refine Chain.runK [] 1 fun K hK => ?_; simp; refine hK _ _ ?_; clear hK K
 refine Chain.sub (S' := mk 39 [] [(0, .d (.sl (a0.map cS27))), (9, .d (.sl (a0.map cS27)))] []) Sub.tt ?_
 replace h := bsome h; obtain ⟨r1, hr1, h⟩ := h
 refine Chain.callL (d := 10) (p18 N a0 r1 hr1) (by simp) rfl rfl (by simp <;> rfl) (by simp <;> rfl) ent18 (by simp <;> rfl) ?_
 refine Chain.sub (S' := mk 39 [] [(0, .d (.sl (a0.map cS27))), (9, .d (.sl (a0.map cS27))), (10, .i r1)] []) (by simp; exact Sub.table (by simp) (by simp)) ?_
 refine Chain.runK [] 1 fun K hK => ?_; simp; refine hK _ _ ?_; clear hK K
 refine Chain.sub (S' := mk 39 [] [(0, .d (.sl (a0.map cS27))), (4, .i r1)] []) Sub.tt ?_
 refine Chain.nil ?_
 refine AW.seqR ?_
 refine Chain.runK [] 2 fun K hK => ?_; simp; refine hK _ _ ?_; clear hK K
 refine Chain.sub (S' := mk 39 [] [(0, .d (.sl (a0.map cS27))), (4, .i r1), (12, .b (r1 != 0))] []) Sub.tt ?_
 refine Chain.nil ?_
 replace h := isome h; rcases h with ⟨c2, h⟩ | ⟨c2, h⟩
 ·have c2_ : (r1 != 0) = true := c2
  refine AW.condT (b := (r1 != 0)) rfl c2_ ?_
  refine AW.sub (Sub.bool 12 (b := (r1 != 0)) rfl c2_) ?_
  refine AW.sub (S' := mk 39 [] [(0, .d (.sl (a0.map cS27))), (4, .i r1), (12, .b true)] []) (by simp; exact Sub.table (by simp) (by simp)) ?_
  refine AW.seqR ?_
  refine Chain.runK [] 3 fun K hK => ?_; simp; refine hK _ _ ?_; clear hK K
  refine Chain.sub (S' := mk 39 [] [(2, .d (.lit (.slice none 0 0))), (3, .i r1)] []) Sub.tt ?_
  refine Chain.nil ?_
  refine AW.sub (Sub.wk 2 rfl) ?_
  refine AW.sub (S' := mk 39 [] [(2, .d (.sl (([] : List Int).map (cI .i64)))), (3, .i r1)] []) (by simp; exact Sub.table (by simp) (by simp)) ?_
  refine AW.ret ?_
  cases h
  refine thenQ_pass (by simp) ?_
  exact FinC.ret (by simp) (by simp)
 ·have c2_ : (r1 != 0) = false := Bool.eq_false_iff.2 c2
  refine AW.condF (b := (r1 != 0)) rfl c2_ ?_
  refine AW.sub (Sub.bool 12 (b := (r1 != 0)) rfl c2_) ?_
  refine AW.sub (S' := mk 39 [] [(0, .d (.sl (a0.map cS27))), (4, .i r1), (12, .b false)] []) (by simp; exact Sub.table (by simp) (by simp)) ?_
  refine AW.skip ?_
  refine thenQ_normal ?_
  refine AW.seqR ?_
  refine Chain.runK [] 1 fun K hK => ?_; simp; refine hK _ _ ?_; clear hK K
  refine Chain.sub (S' := mk 39 [] [(0, .d (.sl (a0.map cS27))), (14, .d (.sl (a0.map cS27)))] []) Sub.tt ?_
  replace h := bsome h; obtain ⟨r3, hr3, h⟩ := h
  refine Chain.callC (d := 15) (p28 N a0 r3 hr3) (by simp) rfl rfl (by simp <;> rfl) (by simp <;> rfl) ent28 (by simp) (.inl ⟨by simp, by simp⟩) ?_
  refine Chain.sub (S' := mk 39 [] [(0, .d (.sl (a0.map cS27))), (14, .d (.sl (a0.map cS27))), (15, .agg (r3.map vB))] []) (by simp; exact Sub.table (by simp) (by simp)) ?_
  refine Chain.runK [] 1 fun K hK => ?_; simp; refine hK _ _ ?_; clear hK K
  refine Chain.sub (S' := mk 39 [] [(0, .d (.sl (a0.map cS27))), (5, .ptr 5 0 0), (15, .agg (r3.map vB))] [(5, some (.box ((List.replicate 400 false).map vB)))]) Sub.tt ?_
  replace h := bsome h; obtain ⟨q4, gq4, h⟩ := h
  have hq4 := (lenL_some gq4).1
  replace h := bsome h; obtain ⟨q5, gq5, h⟩ := h
  have hq5 := (lenL_some gq5).1
  refine Chain.runK [] 1 fun K hK => ?_; simp [hq5]; refine hK _ _ ?_; clear hK K
  refine Chain.sub (S' := mk 39 [] [(0, .d (.sl (a0.map cS27))), (5, .ptr 5 0 0)] [(5, some (.box (r3.map vB)))]) Sub.tt ?_
  refine Chain.nil ?_
  refine AW.seqR ?_
  refine Chain.runK [] 1 fun K hK => ?_; simp; refine hK _ _ ?_; clear hK K
  refine Chain.sub (S' := mk 39 [] [(5, .ptr 5 0 0), (16, .d (.sl (a0.map cS27)))] [(5, some (.box (r3.map vB)))]) Sub.tt ?_
  replace h := bsome h; obtain ⟨r6, hr6, h⟩ := h
  refine Chain.callO (d := 17) (p29 N a0 r6 hr6) (by simp) rfl rfl (by simp <;> rfl) (by simp <;> rfl) ent29 (by simp) ⟨by simp, by simp⟩ ?_
  refine Chain.sub (S' := mk 39 [] [(5, .ptr 5 0 0), (16, .d (.sl (a0.map cS27))), (17, .ref 17 0 r6.length)] [(5, some (.box (r3.map vB))), (17, R3 r6)]) (by simp; exact Sub.table (by simp) (by simp)) ?_
  refine Chain.runK [] 2 fun K hK => ?_; simp; refine hK _ _ ?_; clear hK K
  refine Chain.sub (S' := mk 39 [] [(5, .ptr 5 0 0), (6, .ptr 6 0 0)] [(5, some (.box (r3.map vB))), (6, some (.box [.ref 17 0 r6.length])), (17, R3 r6)]) Sub.tt ?_
  refine Chain.nil ?_
  refine AW.seqR ?_
  refine Chain.runK [] 1 fun K hK => ?_; simp; refine hK _ _ ?_; clear hK K
  refine Chain.sub (S' := mk 39 [] [(5, .ptr 5 0 0), (6, .ptr 6 0 0), (7, .d (.lit (.slice none 0 0)))] [(5, some (.box (r3.map vB))), (6, some (.box [.ref 17 0 r6.length])), (17, R3 r6)]) Sub.tt ?_
  refine Chain.nil ?_
  refine AW.seqJ (fun (l35 : List Int) => mk 39 [] [(7, .ref 32 0 l35.length)] [(32, R3 l35)]) h ?_ ?_ <;> clear h
  ·intro o h
   refine AW.block ?_
   refine AW.iter (fun ((l15, l16) : ((List Int) × (List Int))) => mk 39 [] [(5, .ptr 5 0 0), (6, .ptr 6 0 0), (7, .ref 32 0 l16.length)] [(5, some (.box (r3.map vB))), (6, some (.box [.ref 17 0 l15.length])), (17, R3 l15), (32, R3 l16)]) h (Sub.trans (Sub.nilOwn (t := 7) (id := 32) (T := 3) (n := 1) rfl rfl (by decide)) (by simp; exact Sub.table (by simp) (by simp))) ?_
   clear h
   rintro ⟨l15, l16⟩ x h
   dsimp only at h ⊢
   refine AW.seq ?_
   refine AW.seqR ?_
   refine Chain.runK [] 3 fun K hK => ?_; simp; refine hK _ _ ?_; clear hK K
   refine Chain.sub (S' := mk 39 [] [(5, .ptr 5 0 0), (6, .ptr 6 0 0), (7, .ref 32 0 l16.length), (20, .b (decide ((l15.length : Int) > 0)))] [(5, some (.box (r3.map vB))), (6, some (.box [.ref 17 0 l15.length])), (17, R3 l15), (32, R3 l16)]) Sub.tt ?_
   refine Chain.nil ?_
   replace h := isome h; rcases h with ⟨c36, h⟩ | ⟨c36, h⟩
   ·have c36_ : decide ((l15.length : Int) > 0) = true := decide_eq_true c36
    refine AW.condT (b := decide ((l15.length : Int) > 0)) rfl c36_ ?_
    refine AW.sub (Sub.bool 20 (b := decide ((l15.length : Int) > 0)) rfl c36_) ?_
    refine AW.sub (S' := mk 39 [] [(5, .ptr 5 0 0), (6, .ptr 6 0 0), (7, .ref 32 0 l16.length), (20, .b true)] [(5, some (.box (r3.map vB))), (6, some (.box [.ref 17 0 l15.length])), (17, R3 l15), (32, R3 l16)]) (by simp; exact Sub.table (by simp) (by simp)) ?_
    refine AW.skip ?_
    refine thenQ_normal ?_
    refine AW.block ?_
    refine AW.seqR ?_
    refine Chain.runK [] 2 fun K hK => ?_; simp; refine hK _ _ ?_; clear hK K
    refine Chain.sub (S' := mk 39 [] [(5, .ptr 5 0 0), (6, .ptr 6 0 0), (7, .ref 32 0 l16.length), (21, .ref 17 0 l15.length), (22, .fn (.func 31) [.ptr 6 0 0, .ptr 5 0 0])] [(5, some (.box (r3.map vB))), (6, some (.box [.ref 17 0 l15.length])), (17, R3 l15), (32, R3 l16)]) Sub.tt ?_
    replace h := bsome h; obtain ⟨r37, hr37, h⟩ := h
    refine Chain.callL (d := 23) (p30 N l15 31 [.pim [.sl (l15.map (cI .i64))], .pim (r3.map dB)] (fun b0 => d31 N b0 l15 r3) ent31 (fun b0 r h => p31 N b0 l15 r3 r h) r37 hr37) (by simp) rfl rfl (by simp <;> rfl) (by simp <;> rfl) ent30 (by simp <;> rfl) ?_
    refine Chain.sub (S' := mk 39 [] [(5, .ptr 5 0 0), (6, .ptr 6 0 0), (7, .ref 32 0 l16.length), (21, .ref 17 0 l15.length), (22, .fn (.func 31) [.ptr 6 0 0, .ptr 5 0 0]), (23, .i r37)] [(5, some (.box (r3.map vB))), (6, some (.box [.ref 17 0 l15.length])), (17, R3 l15), (32, R3 l16)]) (by simp; exact Sub.table (by simp) (by simp)) ?_
    refine Chain.runK [] 1 fun K hK => ?_; simp; refine hK _ _ ?_; clear hK K
    refine Chain.sub (S' := mk 39 [] [(5, .ptr 5 0 0), (6, .ptr 6 0 0), (7, .ref 32 0 l16.length), (8, .i r37)] [(5, some (.box (r3.map vB))), (6, some (.box [.ref 17 0 l15.length])), (17, R3 l15), (32, R3 l16)]) Sub.tt ?_
    refine Chain.nil ?_
    refine AW.seq ?_
    refine AW.seqR ?_
    refine Chain.runK [] 2 fun K hK => ?_; simp; refine hK _ _ ?_; clear hK K
    refine Chain.sub (S' := mk 39 [] [(5, .ptr 5 0 0), (6, .ptr 6 0 0), (7, .ref 32 0 l16.length), (8, .i r37), (25, .b (decide (r37 < 0)))] [(5, some (.box (r3.map vB))), (6, some (.box [.ref 17 0 l15.length])), (17, R3 l15), (32, R3 l16)]) Sub.tt ?_
    refine Chain.nil ?_
    replace h := isome h; rcases h with ⟨c38, h⟩ | ⟨c38, h⟩
    ·have c38_ : decide (r37 < 0) = true := decide_eq_true c38
     refine AW.condT (b := decide (r37 < 0)) rfl c38_ ?_
     refine AW.sub (Sub.bool 25 (b := decide (r37 < 0)) rfl c38_) ?_
     refine AW.sub (S' := mk 39 [] [(5, .ptr 5 0 0), (6, .ptr 6 0 0), (7, .ref 32 0 l16.length), (8, .i r37), (25, .b true)] [(5, some (.box (r3.map vB))), (6, some (.box [.ref 17 0 l15.length])), (17, R3 l15), (32, R3 l16)]) (by simp; exact Sub.table (by simp) (by simp)) ?_
     refine AW.seqR ?_
     refine Chain.runK [] 2 fun K hK => ?_; simp; refine hK _ _ ?_; clear hK K
     refine Chain.sub (S' := mk 39 [] [(2, .d (.lit (.slice none 0 0))), (3, .i 14)] []) Sub.tt ?_
     refine Chain.nil ?_
     refine AW.sub (Sub.wk 2 rfl) ?_
     refine AW.sub (S' := mk 39 [] [(2, .d (.sl (([] : List Int).map (cI .i64)))), (3, .i 14)] []) (by simp; exact Sub.table (by simp) (by simp)) ?_
     refine AW.ret ?_
     cases h
     refine thenQ_pass (by simp) ?_
     refine blockQ.ret ?_
     refine PostI.out (by simp) ?_
     rintro rfl
     refine blockQ.ret ?_
     refine PostJ.out (by simp) ?_
     rintro rfl
     exact FinC.ret (by simp) (by simp)
    ·have c38_ : decide (r37 < 0) = false := decide_eq_false c38
     refine AW.condF (b := decide (r37 < 0)) rfl c38_ ?_
     refine AW.sub (Sub.bool 25 (b := decide (r37 < 0)) rfl c38_) ?_
     refine AW.sub (S' := mk 39 [] [(5, .ptr 5 0 0), (6, .ptr 6 0 0), (7, .ref 32 0 l16.length), (8, .i r37), (25, .b false)] [(5, some (.box (r3.map vB))), (6, some (.box [.ref 17 0 l15.length])), (17, R3 l15), (32, R3 l16)]) (by simp; exact Sub.table (by simp) (by simp)) ?_
     refine AW.skip ?_
     refine thenQ_normal ?_
     refine AW.seqR ?_
     replace h := bsome h; obtain ⟨x39, hx39, h⟩ := h
     obtain ⟨k40, hx39k, hx39, hx39a, hx39b⟩ := idx_some hx39
     replace h := bsome h; obtain ⟨l41, hl41, h⟩ := h
     obtain ⟨hl41a, hl41⟩ := appL_some hl41
     subst hl41
     try simp only [List.length_cons, List.length_nil, Nat.zero_add] at hl41a
     refine Chain.runK [31] 8 fun K hK => ?_; simp [hx39, hx39k, hx39a, hx39b, hl41a]; refine hK _ _ ?_; clear hK K
     refine Chain.sub (S' := mk 39 [] [(5, .ptr 5 0 0), (6, .ptr 6 0 0), (7, .ref 32 0 ((l16 ++ [x39]).length)), (8, .i r37)] [(5, some (.box (r3.map vB))), (6, some (.box [.ref 17 0 l15.length])), (17, R3 l15), (32, R3 (l16 ++ [x39]))]) Sub.tt ?_
     refine Chain.nil ?_
     refine AW.region ?_
     replace h := bsome h; obtain ⟨v42, hv42, h⟩ := h
     have hv42 := chkI_some hv42
     refine Chain.runK [] 4 fun K hK => ?_; simp [hv42]; refine hK _ _ ?_; clear hK K
     refine Chain.sub (S' := mk 39 [] [(5, .ptr 5 0 0), (6, .ptr 6 0 0), (7, .ref 32 0 ((l16 ++ [x39]).length)), (33, .ref 17 0 l15.length), (34, .i r37), (36, .i v42)] [(5, some (.box (r3.map vB))), (6, some (.box [.ref 17 0 l15.length])), (17, R3 l15), (32, R3 (l16 ++ [x39]))]) Sub.tt ?_
     replace h := bsome h; obtain ⟨l43, hl43, h⟩ := h
     refine Chain.callF (p34 N l15 r37 v42 l43 hl43) [(17, 1000)] [] [(1000, 17)] [(17, .arr 3 1 (l43.map (cI .i64)))] (.ref 17 0 l43.length) (by simp) rfl (by simp <;> rfl) (by simp) (by simp) (by simp) (by simp) (by simp) ent34 (by simp) (by simp) (by simp) (by simp) (by simp) (by simp) ?_
     refine Chain.sub (S' := mk 39 [] [(5, .ptr 5 0 0), (6, .ptr 6 0 0), (7, .ref 32 0 ((l16 ++ [x39]).length)), (34, .i r37), (36, .i v42), (37, .ref 17 0 l43.length)] [(5, some (.box (r3.map vB))), (6, some (.box [.hole])), (17, R3 l43), (32, R3 (l16 ++ [x39]))]) (by simp; exact Sub.table (by simp) (by simp)) ?_
     refine Chain.runK [] 1 fun K hK => ?_; simp; refine hK _ _ ?_; clear hK K
     refine Chain.sub (S' := mk 39 [] [(5, .ptr 5 0 0), (6, .ptr 6 0 0), (7, .ref 32 0 ((l16 ++ [x39]).length))] [(5, some (.box (r3.map vB))), (6, some (.box [.ref 17 0 l43.length])), (17, R3 l43), (32, R3 (l16 ++ [x39]))]) Sub.tt ?_
     refine Chain.nil ?_
     cases h
     refine blockQ.normal ?_
     refine PostI.next ?_
     exact Sub.tt
   ·have c36_ : decide ((l15.length : Int) > 0) = false := decide_eq_false c36
    refine AW.condF (b := decide ((l15.length : Int) > 0)) rfl c36_ ?_
    refine AW.sub (Sub.bool 20 (b := decide ((l15.length : Int) > 0)) rfl c36_) ?_
    refine AW.sub (S' := mk 39 [] [(5, .ptr 5 0 0), (6, .ptr 6 0 0), (7, .ref 32 0 l16.length), (20, .b false)] [(5, some (.box (r3.map vB))), (6, some (.box [.ref 17 0 l15.length])), (17, R3 l15), (32, R3 l16)]) (by simp; exact Sub.table (by simp) (by simp)) ?_
    refine AW.exit ?_
    cases h
    refine thenQ_pass (by simp) ?_
    refine PostI.out (by simp) ?_
    rintro rfl
    refine blockQ.hit ?_
    refine PostJ.next ?_
    exact Sub.tt
  ·rintro l35 h
   refine AW.seqR ?_
   refine Chain.runK [] 3 fun K hK => ?_; simp; refine hK _ _ ?_; clear hK K
   refine Chain.sub (S' := mk 39 [] [(2, .ref 32 0 l35.length), (3, .i 0)] [(32, R3 l35)]) Sub.tt ?_
   refine Chain.nil ?_
   refine AW.sub (Sub.freeze 32 rfl) ?_
   refine AW.sub (S' := mk 39 [] [(2, .d (.sl (l35.map (cI .i64)))), (3, .i 0)] []) (by simp; exact Sub.table (by simp) (by simp)) ?_
   refine AW.ret ?_
   cases h
   exact FinC.ret (by simp) (by simp)

/-- stemma/interleaving.Count -/
def d4 (N : Nat) (a0 : (List (List S27))) : Option (Int × Int × Int) :=
 (d9 N a0).bind fun r1 =>
 if (r1.2 != 0) then (
  some (0, 0, r1.2)
 ) else
 Option.bind (α := Int) (
  iterN (σ := (Int × Int)) (ρ := Int) (fun ((v10, v11) : (Int × Int)) =>
   if v11 < (r1.1.length : Int) then (
    (idx r1.1 v11).bind fun x32 =>
    (d13 N x32).bind fun r34 =>
    if (r34.2 == 0) then (
     (chkI (v10 + 1)).bind fun v36 =>
     (chkI (v11 + 1)).bind fun v37 =>
     some (.inl (v36, v37))
    ) else
    (chkI (v11 + 1)).bind fun v38 =>
    some (.inl (v10, v38))
   ) else
   some (.inr v10)
  ) N (0, 0)
 ) fun (v30 : Int) =>
 some ((r1.1.length : Int), v30, 0)
set_option maxRecDepth 100000 in
set_option maxHeartbeats 4000000 in
theorem p4 (N : Nat) (a0 : (List (List S27))) (r : (Int × Int × Int)) (h : d4 N a0 = some r) : FunC Try.prog 4 [.d (.sl (a0.map (cL cS27)))] (.tup [.i r.1, .i r.2.1, .i r.2.2]) := by
 unfold d4 at h
 refine FunC.enter 37 [(0, .d (.sl (a0.map (cL cS27))))] (by simp) Try.func4 rfl (of_decide_eq_true rfl) rfl rfl ?_
 refine AW.seqR ?_
 refine Chain.runK [] 3 fun K hK => ?_; simp; refine hK _ _ ?_; clear hK K
 refine Chain.sub (S' := mk 37 [] [(0, .d (.sl (a0.map (cL cS27)))), (3, .i 0)] []) Sub.tt ?_
 refine Chain.nil ?_
 refine AW.seqR ?_
 refine Chain.runK [] 1 fun K hK => ?_; simp; refine hK _ _ ?_; clear hK K
 refine Chain.sub (S' := mk 37 [] [(3, .i 0), (11, .d (.sl (a0.map (cL cS27))))] []) Sub.tt ?_
 replace h := bsome h; obtain ⟨r1, hr1, h⟩ := h
 refine Chain.callC (d := 12) (p9 N a0 r1 hr1) (by simp) rfl rfl (by simp <;> rfl) (by simp <;> rfl) ent9 (by simp) (.inl ⟨by simp, by simp⟩) ?_
 refine Chain.sub (S' := mk 37 [] [(3, .i 0), (11, .d (.sl (a0.map (cL cS27)))), (12, .tup [.d (.sl (r1.1.map (cL cS27))), .i r1.2])] []) (by simp; exact Sub.table (by simp) (by simp)) ?_
 refine Chain.runK [] 5 fun K hK => ?_; simp; refine hK _ _ ?_; clear hK K
 refine Chain.sub (S' := mk 37 [] [(3, .i 0), (4, .i r1.2), (5, .d (.sl (r1.1.map (cL cS27))))] []) Sub.tt ?_
 refine Chain.nil ?_
 refine AW.seq ?_
 refine AW.seqR ?_
 refine Chain.runK [] 2 fun K hK => ?_; simp; refine hK _ _ ?_; clear hK K
 refine Chain.sub (S' := mk 37 [] [(3, .i 0), (4, .i r1.2), (5, .d (.sl (r1.1.map (cL cS27)))), (16, .b (r1.2 != 0))] []) Sub.tt ?_
 refine Chain.nil ?_
 replace h := isome h; rcases h with ⟨c2, h⟩ | ⟨c2, h⟩
 ·have c2_ : (r1.2 != 0) = true := c2
  refine AW.condT (b := (r1.2 != 0)) rfl c2_ ?_
  refine AW.sub (Sub.bool 16 (b := (r1.2 != 0)) rfl c2_) ?_
  refine AW.sub (S' := mk 37 [] [(3, .i 0), (4, .i r1.2), (5, .d (.sl (r1.1.map (cL cS27)))), (16, .b true)] []) (by simp; exact Sub.table (by simp) (by simp)) ?_
  refine AW.seqR ?_
  refine Chain.runK [] 4 fun K hK => ?_; simp; refine hK _ _ ?_; clear hK K
  refine Chain.sub (S' := mk 37 [] [(2, .i 0), (3, .i 0), (4, .i r1.2)] []) Sub.tt ?_
  refine Chain.nil ?_
  refine AW.ret ?_
  cases h
  refine thenQ_pass (by simp) ?_
  exact FinC.ret (by simp) (by simp)
 ·have c2_ : (r1.2 != 0) = false := Bool.eq_false_iff.2 c2
  refine AW.condF (b := (r1.2 != 0)) rfl c2_ ?_
  refine AW.sub (Sub.bool 16 (b := (r1.2 != 0)) rfl c2_) ?_
  refine AW.sub (S' := mk 37 [] [(3, .i 0), (4, .i r1.2), (5, .d (.sl (r1.1.map (cL cS27)))), (16, .b false)] []) (by simp; exact Sub.table (by simp) (by simp)) ?_
  refine AW.skip ?_
  refine thenQ_normal ?_
  refine AW.seq ?_
  refine AW.seqR ?_
  refine Chain.runK [] 3 fun K hK => ?_; simp; refine hK _ _ ?_; clear hK K
  refine Chain.sub (S' := mk 37 [] [(3, .i 0), (5, .d (.sl (r1.1.map (cL cS27)))), (18, .d (.sl (r1.1.map (cL cS27)))), (19, .i (r1.1.length : Int)), (20, .i 0)] []) Sub.tt ?_
  refine Chain.nil ?_
  refine AW.lastN (fun (v30 : Int) => mk 37 [] [(3, .i v30), (5, .d (.sl (r1.1.map (cL cS27))))] []) h ?_ ?_ <;> clear h
  ·intro o h
   refine AW.block ?_
   refine AW.iter (fun ((v10, v11) : (Int × Int)) => mk 37 [] [(3, .i v10), (5, .d (.sl (r1.1.map (cL cS27)))), (18, .d (.sl (r1.1.map (cL cS27)))), (19, .i (r1.1.length : Int)), (20, .i v11)] []) h Sub.tt ?_
   clear h
   rintro ⟨v10, v11⟩ x h
   dsimp only at h ⊢
   refine AW.seqR ?_
   refine Chain.runK [] 1 fun K hK => ?_; simp; refine hK _ _ ?_; clear hK K
   refine Chain.sub (S' := mk 37 [] [(3, .i v10), (5, .d (.sl (r1.1.map (cL cS27)))), (18, .d (.sl (r1.1.map (cL cS27)))), (19, .i (r1.1.length : Int)), (20, .i v11), (21, .b (decide (v11 < (r1.1.length : Int))))] []) Sub.tt ?_
   refine Chain.nil ?_
   refine AW.seq ?_
   replace h := isome h; rcases h with ⟨c31, h⟩ | ⟨c31, h⟩
   ·have c31_ : decide (v11 < (r1.1.length : Int)) = true := decide_eq_true c31
    refine AW.condT (b := decide (v11 < (r1.1.length : Int))) rfl c31_ ?_
    refine AW.sub (Sub.bool 21 (b := decide (v11 < (r1.1.length : Int))) rfl c31_) ?_
    refine AW.sub (S' := mk 37 [] [(3, .i v10), (5, .d (.sl (r1.1.map (cL cS27)))), (18, .d (.sl (r1.1.map (cL cS27)))), (19, .i (r1.1.length : Int)), (20, .i v11), (21, .b true)] []) (by simp; exact Sub.table (by simp) (by simp)) ?_
    refine AW.skip ?_
    refine thenQ_normal ?_
    refine AW.seq ?_
    refine AW.block ?_
    refine AW.seqR ?_
    replace h := bsome h; obtain ⟨x32, hx32, h⟩ := h
    obtain ⟨k33, hx32k, hx32, hx32a, hx32b⟩ := idx_some hx32
    refine Chain.runK [] 3 fun K hK => ?_; simp [hx32, hx32k, hx32a]; refine hK _ _ ?_; clear hK K
    refine Chain.sub (S' := mk 37 [] [(3, .i v10), (5, .d (.sl (r1.1.map (cL cS27)))), (7, .d (.sl (x32.map cS27))), (18, .d (.sl (r1.1.map (cL cS27)))), (19, .i (r1.1.length : Int)), (20, .i v11)] []) Sub.tt ?_
    refine Chain.nil ?_
    refine AW.seqR ?_
    refine Chain.runK [] 1 fun K hK => ?_; simp; refine hK _ _ ?_; clear hK K
    refine Chain.sub (S' := mk 37 [] [(3, .i v10), (5, .d (.sl (r1.1.map (cL cS27)))), (18, .d (.sl (r1.1.map (cL cS27)))), (19, .i (r1.1.length : Int)), (20, .i v11), (25, .d (.sl (x32.map cS27)))] []) Sub.tt ?_
    replace h := bsome h; obtain ⟨r34, hr34, h⟩ := h
    refine Chain.callC (d := 26) (p13 N x32 r34 hr34) (by simp) rfl rfl (by simp <;> rfl) (by simp <;> rfl) ent13 (by simp) (.inl ⟨by simp, by simp⟩) ?_
    refine Chain.sub (S' := mk 37 [] [(3, .i v10), (5, .d (.sl (r1.1.map (cL cS27)))), (18, .d (.sl (r1.1.map (cL cS27)))), (19, .i (r1.1.length : Int)), (20, .i v11), (25, .d (.sl (x32.map cS27))), (26, .tup [.d (.sl (r34.1.map (cI .i64))), .i r34.2])] []) (by simp; exact Sub.table (by simp) (by simp)) ?_
    refine Chain.runK [] 5 fun K hK => ?_; simp; refine hK _ _ ?_; clear hK K
    refine Chain.sub (S' := mk 37 [] [(3, .i v10), (5, .d (.sl (r1.1.map (cL cS27)))), (9, .i r34.2), (18, .d (.sl (r1.1.map (cL cS27)))), (19, .i (r1.1.length : Int)), (20, .i v11)] []) Sub.tt ?_
    refine Chain.nil ?_
    refine AW.seqR ?_
    refine Chain.runK [] 2 fun K hK => ?_; simp; refine hK _ _ ?_; clear hK K
    refine Chain.sub (S' := mk 37 [] [(3, .i v10), (5, .d (.sl (r1.1.map (cL cS27)))), (18, .d (.sl (r1.1.map (cL cS27)))), (19, .i (r1.1.length : Int)), (20, .i v11), (30, .b (r34.2 == 0))] []) Sub.tt ?_
    refine Chain.nil ?_
    replace h := isome h; rcases h with ⟨c35, h⟩ | ⟨c35, h⟩
    ·have c35_ : (r34.2 == 0) = true := c35
     refine AW.condT (b := (r34.2 == 0)) rfl c35_ ?_
     refine AW.sub (Sub.bool 30 (b := (r34.2 == 0)) rfl c35_) ?_
     refine AW.sub (S' := mk 37 [] [(3, .i v10), (5, .d (.sl (r1.1.map (cL cS27)))), (18, .d (.sl (r1.1.map (cL cS27)))), (19, .i (r1.1.length : Int)), (20, .i v11), (30, .b true)] []) (by simp; exact Sub.table (by simp) (by simp)) ?_
     refine AW.region ?_
     replace h := bsome h; obtain ⟨v36, hv36, h⟩ := h
     have hv36 := chkI_some hv36
     refine Chain.runK [] 3 fun K hK => ?_; simp [hv36]; refine hK _ _ ?_; clear hK K
     refine Chain.sub (S' := mk 37 [] [(3, .i v36), (5, .d (.sl (r1.1.map (cL cS27)))), (18, .d (.sl (r1.1.map (cL cS27)))), (19, .i (r1.1.length : Int)), (20, .i v11)] []) Sub.tt ?_
     refine Chain.nil ?_
     refine blockQ.normal ?_
     refine thenQ_normal ?_
     refine AW.region ?_
     replace h := bsome h; obtain ⟨v37, hv37, h⟩ := h
     have hv37 := chkI_some hv37
     refine Chain.runK [] 2 fun K hK => ?_; simp [hv37]; refine hK _ _ ?_; clear hK K
     refine Chain.sub (S' := mk 37 [] [(3, .i v36), (5, .d (.sl (r1.1.map (cL cS27)))), (18, .d (.sl (r1.1.map (cL cS27)))), (19, .i (r1.1.length : Int)), (20, .i v37)] []) Sub.tt ?_
     refine Chain.nil ?_
     cases h
     refine PostI.next ?_
     exact Sub.tt
    ·have c35_ : (r34.2 == 0) = false := Bool.eq_false_iff.2 c35
     refine AW.condF (b := (r34.2 == 0)) rfl c35_ ?_
     refine AW.sub (Sub.bool 30 (b := (r34.2 == 0)) rfl c35_) ?_
     refine AW.sub (S' := mk 37 [] [(3, .i v10), (5, .d (.sl (r1.1.map (cL cS27)))), (18, .d (.sl (r1.1.map (cL cS27)))), (19, .i (r1.1.length : Int)), (20, .i v11), (30, .b false)] []) (by simp; exact Sub.table (by simp) (by simp)) ?_
     refine AW.skip ?_
     refine blockQ.normal ?_
     refine thenQ_normal ?_
     refine AW.region ?_
     replace h := bsome h; obtain ⟨v38, hv38, h⟩ := h
     have hv38 := chkI_some hv38
     refine Chain.runK [] 2 fun K hK => ?_; simp [hv38]; refine hK _ _ ?_; clear hK K
     refine Chain.sub (S' := mk 37 [] [(3, .i v10), (5, .d (.sl (r1.1.map (cL cS27)))), (18, .d (.sl (r1.1.map (cL cS27)))), (19, .i (r1.1.length : Int)), (20, .i v38)] []) Sub.tt ?_
     refine Chain.nil ?_
     cases h
     refine PostI.next ?_
     exact Sub.tt
   ·have c31_ : decide (v11 < (r1.1.length : Int)) = false := decide_eq_false c31
    refine AW.condF (b := decide (v11 < (r1.1.length : Int))) rfl c31_ ?_
    refine AW.sub (Sub.bool 21 (b := decide (v11 < (r1.1.length : Int))) rfl c31_) ?_
    refine AW.sub (S' := mk 37 [] [(3, .i v10), (5, .d (.sl (r1.1.map (cL cS27)))), (18, .d (.sl (r1.1.map (cL cS27)))), (19, .i (r1.1.length : Int)), (20, .i v11), (21, .b false)] []) (by simp; exact Sub.table (by simp) (by simp)) ?_
    refine AW.exit ?_
    cases h
    refine thenQ_pass (by simp) ?_
    refine PostI.out (by simp) ?_
    rintro rfl
    refine blockQ.hit ?_
    refine PostN.next ?_
    exact Sub.tt
  ·rintro v30 h
   refine thenQ_normal ?_
   refine AW.seqR ?_
   refine Chain.runK [] 6 fun K hK => ?_; simp; refine hK _ _ ?_; clear hK K
   refine Chain.sub (S' := mk 37 [] [(2, .i (r1.1.length : Int)), (3, .i v30), (4, .i 0)] []) Sub.tt ?_
   refine Chain.nil ?_
   refine AW.ret ?_
   cases h
   exact FinC.ret (by simp) (by simp)

/-- stemma/stemlaw5.operations -/
def d5 (N : Nat) (a0 : (List S27)) : Option (List S27) :=
 Option.bind (α := List S27) (
  iterN (σ := ((List S27) × Int)) (ρ := List S27) (fun ((l5, v6) : ((List S27) × Int)) =>
   if v6 < (a0.length : Int) then (
    (idx a0 v6).bind fun x21 =>
    (appL 32 l5 [x21]).bind fun _l23 =>
    (chkI (v6 + 1)).bind fun v24 =>
    some (.inl ((l5 ++ [x21]), v24))
   ) else
   some (.inr l5)
  ) N (([] : List S27), 0)
 ) fun (l19 : List S27) =>
 some l19
set_option maxRecDepth 100000 in
set_option maxHeartbeats 4000000 in
theorem p5 (N : Nat) (a0 : (List S27)) (r : (List S27)) (h : d5 N a0 = some r) : FunC Try.prog 5 [.d (.sl (a0.map cS27))] (.d (.sl (r.map cS27))) := by
 unfold d5 at h
 refine FunC.enter 24 [(0, .d (.sl (a0.map cS27)))] (by simp) Try.func5 rfl (of_decide_eq_true rfl) rfl rfl ?_
 refine AW.seqR ?_
 refine Chain.runK [] 1 fun K hK => ?_; simp; refine hK _ _ ?_; clear hK K
 refine Chain.sub (S' := mk 24 [] [(0, .d (.sl (a0.map cS27)))] []) Sub.tt ?_
 refine Chain.nil ?_
 refine AW.seqR ?_
 refine Chain.runK [] 1 fun K hK => ?_; simp; refine hK _ _ ?_; clear hK K
 refine Chain.sub (S' := mk 24 [] [(0, .d (.sl (a0.map cS27))), (3, .d (.lit (.slice none 0 0)))] []) Sub.tt ?_
 refine Chain.nil ?_
 refine AW.seq ?_
 refine AW.seqR ?_
 refine Chain.runK [] 3 fun K hK => ?_; simp; refine hK _ _ ?_; clear hK K
 refine Chain.sub (S' := mk 24 [] [(3, .d (.lit (.slice none 0 0))), (6, .d (.sl (a0.map cS27))), (7, .i (a0.length : Int)), (8, .i 0)] []) Sub.tt ?_
 refine Chain.nil ?_
 refine AW.lastN (fun (l19 : List S27) => mk 24 [] [(3, .ref 21 0 l19.length)] [(21, R27 l19)]) h ?_ ?_ <;> clear h
 ·intro o h
  refine AW.block ?_
  refine AW.iter (fun ((l5, v6) : ((List S27) × Int)) => mk 24 [] [(3, .ref 21 0 l5.length), (6, .d (.sl (a0.map cS27))), (7, .i (a0.length : Int)), (8, .i v6)] [(21, R27 l5)]) h (Sub.trans (Sub.nilOwn (t := 3) (id := 21) (T := 27) (n := 3) rfl rfl (by decide)) (by simp; exact Sub.table (by simp) (by simp))) ?_
  clear h
  rintro ⟨l5, v6⟩ x h
  dsimp only at h ⊢
  refine AW.seqR ?_
  refine Chain.runK [] 1 fun K hK => ?_; simp; refine hK _ _ ?_; clear hK K
  refine Chain.sub (S' := mk 24 [] [(3, .ref 21 0 l5.length), (6, .d (.sl (a0.map cS27))), (7, .i (a0.length : Int)), (8, .i v6), (9, .b (decide (v6 < (a0.length : Int))))] [(21, R27 l5)]) Sub.tt ?_
  refine Chain.nil ?_
  refine AW.seq ?_
  replace h := isome h; rcases h with ⟨c20, h⟩ | ⟨c20, h⟩
  ·have c20_ : decide (v6 < (a0.length : Int)) = true := decide_eq_true c20
   refine AW.condT (b := decide (v6 < (a0.length : Int))) rfl c20_ ?_
   refine AW.sub (Sub.bool 9 (b := decide (v6 < (a0.length : Int))) rfl c20_) ?_
   refine AW.sub (S' := mk 24 [] [(3, .ref 21 0 l5.length), (6, .d (.sl (a0.map cS27))), (7, .i (a0.length : Int)), (8, .i v6), (9, .b true)] [(21, R27 l5)]) (by simp; exact Sub.table (by simp) (by simp)) ?_
   refine AW.skip ?_
   refine thenQ_normal ?_
   refine AW.seq ?_
   refine AW.block ?_
   refine AW.seqR ?_
   replace h := bsome h; obtain ⟨x21, hx21, h⟩ := h
   obtain ⟨k22, hx21k, hx21, hx21a, hx21b⟩ := idx_some hx21
   refine Chain.runK [] 4 fun K hK => ?_; simp [hx21, hx21k, hx21a]; refine hK _ _ ?_; clear hK K
   refine Chain.sub (S' := mk 24 [] [(3, .ref 21 0 l5.length), (5, .ptr 5 0 0), (6, .d (.sl (a0.map cS27))), (7, .i (a0.length : Int)), (8, .i v6)] [(5, some (.box [.i x21.Tx, .i x21.Kind, .d (.lit (.string x21.Key))])), (21, R27 l5)]) Sub.tt ?_
   refine Chain.nil ?_
   refine AW.region ?_
   replace h := bsome h; obtain ⟨l23, hl23, h⟩ := h
   obtain ⟨hl23a, hl23⟩ := appL_some hl23
   subst hl23
   try simp only [List.length_cons, List.length_nil, Nat.zero_add] at hl23a
   refine Chain.runK [20] 11 fun K hK => ?_; simp [hl23a]; refine hK _ _ ?_; clear hK K
   refine Chain.sub (S' := mk 24 [] [(3, .ref 21 0 ((l5 ++ [x21]).length)), (6, .d (.sl (a0.map cS27))), (7, .i (a0.length : Int)), (8, .i v6)] [(21, R27 (l5 ++ [x21]))]) Sub.tt ?_
   refine Chain.nil ?_
   refine blockQ.normal ?_
   refine thenQ_normal ?_
   refine AW.region ?_
   replace h := bsome h; obtain ⟨v24, hv24, h⟩ := h
   have hv24 := chkI_some hv24
   refine Chain.runK [] 2 fun K hK => ?_; simp [hv24]; refine hK _ _ ?_; clear hK K
   refine Chain.sub (S' := mk 24 [] [(3, .ref 21 0 ((l5 ++ [x21]).length)), (6, .d (.sl (a0.map cS27))), (7, .i (a0.length : Int)), (8, .i v24)] [(21, R27 (l5 ++ [x21]))]) Sub.tt ?_
   refine Chain.nil ?_
   cases h
   refine PostI.next ?_
   exact Sub.tt
  ·have c20_ : decide (v6 < (a0.length : Int)) = false := decide_eq_false c20
   refine AW.condF (b := decide (v6 < (a0.length : Int))) rfl c20_ ?_
   refine AW.sub (Sub.bool 9 (b := decide (v6 < (a0.length : Int))) rfl c20_) ?_
   refine AW.sub (S' := mk 24 [] [(3, .ref 21 0 l5.length), (6, .d (.sl (a0.map cS27))), (7, .i (a0.length : Int)), (8, .i v6), (9, .b false)] [(21, R27 l5)]) (by simp; exact Sub.table (by simp) (by simp)) ?_
   refine AW.exit ?_
   cases h
   refine thenQ_pass (by simp) ?_
   refine PostI.out (by simp) ?_
   rintro rfl
   refine blockQ.hit ?_
   refine PostN.next ?_
   exact Sub.tt
 ·rintro l19 h
  refine thenQ_normal ?_
  refine AW.seqR ?_
  refine Chain.runK [] 2 fun K hK => ?_; simp; refine hK _ _ ?_; clear hK K
  refine Chain.sub (S' := mk 24 [] [(2, .ref 21 0 l19.length)] [(21, R27 l19)]) Sub.tt ?_
  refine Chain.nil ?_
  refine AW.sub (Sub.freeze 21 rfl) ?_
  refine AW.sub (S' := mk 24 [] [(2, .d (.sl (l19.map cS27)))] []) (by simp; exact Sub.table (by simp) (by simp)) ?_
  refine AW.ret ?_
  cases h
  exact FinC.ret (by simp) (by simp)

/-- stemma/stemref5.Between -/
def d14 (_N : Nat) (a0 : Int) (a1 : Int) (a2 : Int) : Option Bool :=
 Option.bind (α := Bool) (
  if a0 ≥ a1 then (
   some (decide (a0 ≤ a2))
  ) else
  some false
 ) fun (v2 : Bool) =>
 some v2
set_option maxRecDepth 100000 in
set_option maxHeartbeats 4000000 in
theorem p14 (N : Nat) (a0 : Int) (a1 : Int) (a2 : Int) (r : Bool) (h : d14 N a0 a1 a2 = some r) : FunC Try.prog 14 [.i a0, .i a1, .i a2] (.b r) := by
 unfold d14 at h
 refine FunC.enter 15 [(0, .i a0), (1, .i a1), (2, .i a2)] (by simp) Try.func14 rfl (of_decide_eq_true rfl) rfl rfl ?_
 refine AW.seqR ?_
 refine Chain.runK [] 1 fun K hK => ?_; simp; refine hK _ _ ?_; clear hK K
 refine Chain.sub (S' := mk 15 [] [(0, .i a0), (1, .i a1), (2, .i a2)] []) Sub.tt ?_
 refine Chain.nil ?_
 replace h := bsome h; obtain ⟨v2, hj, h⟩ := h
 refine AW.cutR (mk 15 [] [(6, .b v2)] []) ?_ ?_
 ·clear h; have h := hj; clear hj
  refine Chain.runK [] 4 fun K hK => ?_; simp; refine hK _ _ ?_; clear hK K
  refine Chain.sub (S' := mk 15 [] [(0, .i a0), (2, .i a2), (10, .b (decide (a0 ≥ a1)))] []) Sub.tt ?_
  replace h := isome h; rcases h with ⟨c3, h⟩ | ⟨c3, h⟩
  ·have c3_ : decide (a0 ≥ a1) = true := decide_eq_true c3
   refine Chain.sub (Sub.bool 10 (b := decide (a0 ≥ a1)) rfl c3_) ?_
   refine Chain.sub (S' := mk 15 [] [(0, .i a0), (2, .i a2), (10, .b true)] []) (by simp; exact Sub.table (by simp) (by simp)) ?_
   refine Chain.runK [] 5 fun K hK => ?_; simp; refine hK _ _ ?_; clear hK K
   refine Chain.sub (S' := mk 15 [] [(6, .b (decide (a0 ≤ a2)))] []) Sub.tt ?_
   cases h
   exact Chain.nil Sub.tt
  ·have c3_ : decide (a0 ≥ a1) = false := decide_eq_false c3
   refine Chain.sub (Sub.bool 10 (b := decide (a0 ≥ a1)) rfl c3_) ?_
   refine Chain.sub (S' := mk 15 [] [(0, .i a0), (2, .i a2), (10, .b false)] []) (by simp; exact Sub.table (by simp) (by simp)) ?_
   refine Chain.runK [] 5 fun K hK => ?_; simp; refine hK _ _ ?_; clear hK K
   refine Chain.sub (S' := mk 15 [] [(6, .b false)] []) Sub.tt ?_
   cases h
   exact Chain.nil Sub.tt
 ·clear hj
  refine AW.ret ?_
  cases h
  exact FinC.ret (by simp) (by simp)

/-- stemma/stemref5.CheckHistory -/
def d6 (N : Nat) (a0 : (List S27)) : Option Int :=
 if (a0.length : Int) > 200 then (
  some 2
 ) else
 bindO (β := Unit) (ρ := Int) (
  iterN (σ := Int) (ρ := (Out Unit Int)) (fun (v10 : Int) =>
   if v10 < (a0.length : Int) then (
    (idx a0 v10).bind fun x31 =>
    (d14 N x31.Kind 1 2).bind fun r33 =>
    if (!r33) = true then (
     some (.inr (.ret 3))
    ) else
    (d14 N x31.Tx 0 19).bind fun r35 =>
    if (!r35) = true then (
     some (.inr (.ret 1))
    ) else
    if (x31.Key.size : Int) > 24 then (
     some (.inr (.ret 2))
    ) else
    (chkI (v10 + 1)).bind fun v38 =>
    some (.inl v38)
   ) else
   some (.inr (.go ()))
  ) N 0
 ) fun (_ : Unit) =>
 some 0
set_option maxRecDepth 100000 in
set_option maxHeartbeats 4000000 in
theorem p6 (N : Nat) (a0 : (List S27)) (r : Int) (h : d6 N a0 = some r) : FunC Try.prog 6 [.d (.sl (a0.map cS27))] (.i r) := by
 unfold d6 at h
 refine FunC.enter 30 [(0, .d (.sl (a0.map cS27)))] (by simp) Try.func6 rfl (of_decide_eq_true rfl) rfl rfl ?_
 refine AW.seqR ?_
 refine Chain.runK [] 1 fun K hK => ?_; simp; refine hK _ _ ?_; clear hK K
 refine Chain.sub (S' := mk 30 [] [(0, .d (.sl (a0.map cS27)))] []) Sub.tt ?_
 refine Chain.nil ?_
 refine AW.seq ?_
 refine AW.seqR ?_
 refine Chain.runK [] 3 fun K hK => ?_; simp; refine hK _ _ ?_; clear hK K
 refine Chain.sub (S' := mk 30 [] [(0, .d (.sl (a0.map cS27))), (7, .b (decide ((a0.length : Int) > 200)))] []) Sub.tt ?_
 refine Chain.nil ?_
 replace h := isome h; rcases h with ⟨c1, h⟩ | ⟨c1, h⟩
 ·have c1_ : decide ((a0.length : Int) > 200) = true := decide_eq_true c1
  refine AW.condT (b := decide ((a0.length : Int) > 200)) rfl c1_ ?_
  refine AW.sub (Sub.bool 7 (b := decide ((a0.length : Int) > 200)) rfl c1_) ?_
  refine AW.sub (S' := mk 30 [] [(0, .d (.sl (a0.map cS27))), (7, .b true)] []) (by simp; exact Sub.table (by simp) (by simp)) ?_
  refine AW.seqR ?_
  refine Chain.runK [] 1 fun K hK => ?_; simp; refine hK _ _ ?_; clear hK K
  refine Chain.sub (S' := mk 30 [] [(2, .i 2)] []) Sub.tt ?_
  refine Chain.nil ?_
  refine AW.ret ?_
  cases h
  refine thenQ_pass (by simp) ?_
  exact FinC.ret (by simp) (by simp)
 ·have c1_ : decide ((a0.length : Int) > 200) = false := decide_eq_false c1
  refine AW.condF (b := decide ((a0.length : Int) > 200)) rfl c1_ ?_
  refine AW.sub (Sub.bool 7 (b := decide ((a0.length : Int) > 200)) rfl c1_) ?_
  refine AW.sub (S' := mk 30 [] [(0, .d (.sl (a0.map cS27))), (7, .b false)] []) (by simp; exact Sub.table (by simp) (by simp)) ?_
  refine AW.skip ?_
  refine thenQ_normal ?_
  refine AW.seq ?_
  refine AW.seqR ?_
  refine Chain.runK [] 3 fun K hK => ?_; simp; refine hK _ _ ?_; clear hK K
  refine Chain.sub (S' := mk 30 [] [(8, .d (.sl (a0.map cS27))), (9, .i (a0.length : Int)), (10, .i 0)] []) Sub.tt ?_
  refine Chain.nil ?_
  refine AW.lastJ (fun (_ : Unit) => mk 30 [] [] []) h ?_ ?_ <;> clear h
  ·intro o h
   refine AW.block ?_
   refine AW.iter (fun (v10 : Int) => mk 30 [] [(8, .d (.sl (a0.map cS27))), (9, .i (a0.length : Int)), (10, .i v10)] []) h Sub.tt ?_
   clear h
   rintro v10 x h
   refine AW.seqR ?_
   refine Chain.runK [] 1 fun K hK => ?_; simp; refine hK _ _ ?_; clear hK K
   refine Chain.sub (S' := mk 30 [] [(8, .d (.sl (a0.map cS27))), (9, .i (a0.length : Int)), (10, .i v10), (11, .b (decide (v10 < (a0.length : Int))))] []) Sub.tt ?_
   refine Chain.nil ?_
   refine AW.seq ?_
   replace h := isome h; rcases h with ⟨c30, h⟩ | ⟨c30, h⟩
   ·have c30_ : decide (v10 < (a0.length : Int)) = true := decide_eq_true c30
    refine AW.condT (b := decide (v10 < (a0.length : Int))) rfl c30_ ?_
    refine AW.sub (Sub.bool 11 (b := decide (v10 < (a0.length : Int))) rfl c30_) ?_
    refine AW.sub (S' := mk 30 [] [(8, .d (.sl (a0.map cS27))), (9, .i (a0.length : Int)), (10, .i v10), (11, .b true)] []) (by simp; exact Sub.table (by simp) (by simp)) ?_
    refine AW.skip ?_
    refine thenQ_normal ?_
    refine AW.seq ?_
    refine AW.block ?_
    refine AW.seqR ?_
    replace h := bsome h; obtain ⟨x31, hx31, h⟩ := h
    obtain ⟨k32, hx31k, hx31, hx31a, hx31b⟩ := idx_some hx31
    refine Chain.runK [] 4 fun K hK => ?_; simp [hx31, hx31k, hx31a]; refine hK _ _ ?_; clear hK K
    refine Chain.sub (S' := mk 30 [] [(4, .ptr 4 0 0), (8, .d (.sl (a0.map cS27))), (9, .i (a0.length : Int)), (10, .i v10)] [(4, some (.box [.i x31.Tx, .i x31.Kind, .d (.lit (.string x31.Key))]))]) Sub.tt ?_
    refine Chain.nil ?_
    refine AW.block ?_
    refine AW.seqR ?_
    refine Chain.runK [] 2 fun K hK => ?_; simp; refine hK _ _ ?_; clear hK K
    refine Chain.sub (S' := mk 30 [] [(4, .ptr 4 0 0), (8, .d (.sl (a0.map cS27))), (9, .i (a0.length : Int)), (10, .i v10), (16, .i x31.Kind)] [(4, some (.box [.i x31.Tx, .i x31.Kind, .d (.lit (.string x31.Key))]))]) Sub.tt ?_
    replace h := bsome h; obtain ⟨r33, hr33, h⟩ := h
    refine Chain.callL (d := 17) (p14 N x31.Kind 1 2 r33 hr33) (by simp) rfl rfl (by simp <;> rfl) (by simp <;> rfl) ent14 (by simp <;> rfl) ?_
    refine Chain.sub (S' := mk 30 [] [(4, .ptr 4 0 0), (8, .d (.sl (a0.map cS27))), (9, .i (a0.length : Int)), (10, .i v10), (16, .i x31.Kind), (17, .b r33)] [(4, some (.box [.i x31.Tx, .i x31.Kind, .d (.lit (.string x31.Key))]))]) (by simp; exact Sub.table (by simp) (by simp)) ?_
    refine Chain.runK [] 2 fun K hK => ?_; simp; refine hK _ _ ?_; clear hK K
    refine Chain.sub (S' := mk 30 [] [(4, .ptr 4 0 0), (8, .d (.sl (a0.map cS27))), (9, .i (a0.length : Int)), (10, .i v10), (14, .b (!r33))] [(4, some (.box [.i x31.Tx, .i x31.Kind, .d (.lit (.string x31.Key))]))]) Sub.tt ?_
    refine Chain.nil ?_
    replace h := isome h; rcases h with ⟨c34, h⟩ | ⟨c34, h⟩
    ·have c34_ : (!r33) = true := c34
     refine AW.condT (b := (!r33)) rfl c34_ ?_
     refine AW.sub (Sub.bool 14 (b := (!r33)) rfl c34_) ?_
     refine AW.sub (S' := mk 30 [] [(4, .ptr 4 0 0), (8, .d (.sl (a0.map cS27))), (9, .i (a0.length : Int)), (10, .i v10), (14, .b true)] [(4, some (.box [.i x31.Tx, .i x31.Kind, .d (.lit (.string x31.Key))]))]) (by simp; exact Sub.table (by simp) (by simp)) ?_
     refine AW.seqR ?_
     refine Chain.runK [] 1 fun K hK => ?_; simp; refine hK _ _ ?_; clear hK K
     refine Chain.sub (S' := mk 30 [] [(2, .i 3)] []) Sub.tt ?_
     refine Chain.nil ?_
     refine AW.ret ?_
     cases h
     refine blockQ.ret ?_
     refine blockQ.ret ?_
     refine thenQ_pass (by simp) ?_
     refine PostI.out (by simp) ?_
     rintro rfl
     refine blockQ.ret ?_
     refine PostJ.out (by simp) ?_
     rintro rfl
     refine thenQ_pass (by simp) ?_
     exact FinC.ret (by simp) (by simp)
    ·have c34_ : (!r33) = false := Bool.eq_false_iff.2 c34
     refine AW.condF (b := (!r33)) rfl c34_ ?_
     refine AW.sub (Sub.bool 14 (b := (!r33)) rfl c34_) ?_
     refine AW.sub (S' := mk 30 [] [(4, .ptr 4 0 0), (8, .d (.sl (a0.map cS27))), (9, .i (a0.length : Int)), (10, .i v10), (14, .b false)] [(4, some (.box [.i x31.Tx, .i x31.Kind, .d (.lit (.string x31.Key))]))]) (by simp; exact Sub.table (by simp) (by simp)) ?_
     refine AW.seqR ?_
     refine Chain.runK [] 2 fun K hK => ?_; simp; refine hK _ _ ?_; clear hK K
     refine Chain.sub (S' := mk 30 [] [(4, .ptr 4 0 0), (8, .d (.sl (a0.map cS27))), (9, .i (a0.length : Int)), (10, .i v10), (21, .i x31.Tx)] [(4, some (.box [.i x31.Tx, .i x31.Kind, .d (.lit (.string x31.Key))]))]) Sub.tt ?_
     replace h := bsome h; obtain ⟨r35, hr35, h⟩ := h
     refine Chain.callL (d := 22) (p14 N x31.Tx 0 19 r35 hr35) (by simp) rfl rfl (by simp <;> rfl) (by simp <;> rfl) ent14 (by simp <;> rfl) ?_
     refine Chain.sub (S' := mk 30 [] [(4, .ptr 4 0 0), (8, .d (.sl (a0.map cS27))), (9, .i (a0.length : Int)), (10, .i v10), (21, .i x31.Tx), (22, .b r35)] [(4, some (.box [.i x31.Tx, .i x31.Kind, .d (.lit (.string x31.Key))]))]) (by simp; exact Sub.table (by simp) (by simp)) ?_
     refine Chain.runK [] 2 fun K hK => ?_; simp; refine hK _ _ ?_; clear hK K
     refine Chain.sub (S' := mk 30 [] [(4, .ptr 4 0 0), (8, .d (.sl (a0.map cS27))), (9, .i (a0.length : Int)), (10, .i v10), (19, .b (!r35))] [(4, some (.box [.i x31.Tx, .i x31.Kind, .d (.lit (.string x31.Key))]))]) Sub.tt ?_
     refine Chain.nil ?_
     replace h := isome h; rcases h with ⟨c36, h⟩ | ⟨c36, h⟩
     ·have c36_ : (!r35) = true := c36
      refine AW.condT (b := (!r35)) rfl c36_ ?_
      refine AW.sub (Sub.bool 19 (b := (!r35)) rfl c36_) ?_
      refine AW.sub (S' := mk 30 [] [(4, .ptr 4 0 0), (8, .d (.sl (a0.map cS27))), (9, .i (a0.length : Int)), (10, .i v10), (19, .b true)] [(4, some (.box [.i x31.Tx, .i x31.Kind, .d (.lit (.string x31.Key))]))]) (by simp; exact Sub.table (by simp) (by simp)) ?_
      refine AW.seqR ?_
      refine Chain.runK [] 1 fun K hK => ?_; simp; refine hK _ _ ?_; clear hK K
      refine Chain.sub (S' := mk 30 [] [(2, .i 1)] []) Sub.tt ?_
      refine Chain.nil ?_
      refine AW.ret ?_
      cases h
      refine blockQ.ret ?_
      refine blockQ.ret ?_
      refine thenQ_pass (by simp) ?_
      refine PostI.out (by simp) ?_
      rintro rfl
      refine blockQ.ret ?_
      refine PostJ.out (by simp) ?_
      rintro rfl
      refine thenQ_pass (by simp) ?_
      exact FinC.ret (by simp) (by simp)
     ·have c36_ : (!r35) = false := Bool.eq_false_iff.2 c36
      refine AW.condF (b := (!r35)) rfl c36_ ?_
      refine AW.sub (Sub.bool 19 (b := (!r35)) rfl c36_) ?_
      refine AW.sub (S' := mk 30 [] [(4, .ptr 4 0 0), (8, .d (.sl (a0.map cS27))), (9, .i (a0.length : Int)), (10, .i v10), (19, .b false)] [(4, some (.box [.i x31.Tx, .i x31.Kind, .d (.lit (.string x31.Key))]))]) (by simp; exact Sub.table (by simp) (by simp)) ?_
      refine AW.seqR ?_
      refine Chain.runK [] 5 fun K hK => ?_; simp; refine hK _ _ ?_; clear hK K
      refine Chain.sub (S' := mk 30 [] [(8, .d (.sl (a0.map cS27))), (9, .i (a0.length : Int)), (10, .i v10), (24, .b (decide ((x31.Key.size : Int) > 24)))] []) Sub.tt ?_
      refine Chain.nil ?_
      replace h := isome h; rcases h with ⟨c37, h⟩ | ⟨c37, h⟩
      ·have c37_ : decide ((x31.Key.size : Int) > 24) = true := decide_eq_true c37
       refine AW.condT (b := decide ((x31.Key.size : Int) > 24)) rfl c37_ ?_
       refine AW.sub (Sub.bool 24 (b := decide ((x31.Key.size : Int) > 24)) rfl c37_) ?_
       refine AW.sub (S' := mk 30 [] [(8, .d (.sl (a0.map cS27))), (9, .i (a0.length : Int)), (10, .i v10), (24, .b true)] []) (by simp; exact Sub.table (by simp) (by simp)) ?_
       refine AW.seqR ?_
       refine Chain.runK [] 1 fun K hK => ?_; simp; refine hK _ _ ?_; clear hK K
       refine Chain.sub (S' := mk 30 [] [(2, .i 2)] []) Sub.tt ?_
       refine Chain.nil ?_
       refine AW.ret ?_
       cases h
       refine blockQ.ret ?_
       refine blockQ.ret ?_
       refine thenQ_pass (by simp) ?_
       refine PostI.out (by simp) ?_
       rintro rfl
       refine blockQ.ret ?_
       refine PostJ.out (by simp) ?_
       rintro rfl
       refine thenQ_pass (by simp) ?_
       exact FinC.ret (by simp) (by simp)
      ·have c37_ : decide ((x31.Key.size : Int) > 24) = false := decide_eq_false c37
       refine AW.condF (b := decide ((x31.Key.size : Int) > 24)) rfl c37_ ?_
       refine AW.sub (Sub.bool 24 (b := decide ((x31.Key.size : Int) > 24)) rfl c37_) ?_
       refine AW.sub (S' := mk 30 [] [(8, .d (.sl (a0.map cS27))), (9, .i (a0.length : Int)), (10, .i v10), (24, .b false)] []) (by simp; exact Sub.table (by simp) (by simp)) ?_
       refine AW.skip ?_
       refine blockQ.normal ?_
       refine blockQ.normal ?_
       refine thenQ_normal ?_
       refine AW.region ?_
       replace h := bsome h; obtain ⟨v38, hv38, h⟩ := h
       have hv38 := chkI_some hv38
       refine Chain.runK [] 2 fun K hK => ?_; simp [hv38]; refine hK _ _ ?_; clear hK K
       refine Chain.sub (S' := mk 30 [] [(8, .d (.sl (a0.map cS27))), (9, .i (a0.length : Int)), (10, .i v38)] []) Sub.tt ?_
       refine Chain.nil ?_
       cases h
       refine PostI.next ?_
       exact Sub.tt
   ·have c30_ : decide (v10 < (a0.length : Int)) = false := decide_eq_false c30
    refine AW.condF (b := decide (v10 < (a0.length : Int))) rfl c30_ ?_
    refine AW.sub (Sub.bool 11 (b := decide (v10 < (a0.length : Int))) rfl c30_) ?_
    refine AW.sub (S' := mk 30 [] [(8, .d (.sl (a0.map cS27))), (9, .i (a0.length : Int)), (10, .i v10), (11, .b false)] []) (by simp; exact Sub.table (by simp) (by simp)) ?_
    refine AW.exit ?_
    cases h
    refine thenQ_pass (by simp) ?_
    refine PostI.out (by simp) ?_
    rintro rfl
    refine blockQ.hit ?_
    refine PostJ.next ?_
    exact Sub.tt
  ·rintro ⟨⟩ h
   refine thenQ_normal ?_
   refine AW.seqR ?_
   refine Chain.runK [] 1 fun K hK => ?_; simp; refine hK _ _ ?_; clear hK K
   refine Chain.sub (S' := mk 30 [] [(2, .i 0)] []) Sub.tt ?_
   refine Chain.nil ?_
   refine AW.ret ?_
   cases h
   exact FinC.ret (by simp) (by simp)

/-- stemma/stemlaw5.SchedulesMatchReference$1 -/
def d8 (_N : Nat) (a0 : S27) (a1 : Int) : Option Bool :=
 some (a0.Tx != a1)
set_option maxRecDepth 100000 in
set_option maxHeartbeats 4000000 in
theorem p8 (N : Nat) (a0 : S27) (a1 : Int) (r : Bool) (h : d8 N a0 a1 = some r) : FunC Try.prog 8 [.agg [.i a0.Tx, .i a0.Kind, .d (.lit (.string a0.Key))], .d (.pim [.lit (.int .i64 a1)])] (.b r) := by
 unfold d8 at h
 refine FunC.enter 8 [(0, .agg [.i a0.Tx, .i a0.Kind, .d (.lit (.string a0.Key))]), (1, .d (.pim [.lit (.int .i64 a1)]))] (by simp) Try.func8 rfl (of_decide_eq_true rfl) rfl rfl ?_
 refine AW.seqR ?_
 refine Chain.runK [] 2 fun K hK => ?_; simp; refine hK _ _ ?_; clear hK K
 refine Chain.sub (S' := mk 8 [] [(1, .d (.pim [.lit (.int .i64 a1)])), (2, .ptr 2 0 0)] [(2, some (.box [.i a0.Tx, .i a0.Kind, .d (.lit (.string a0.Key))]))]) Sub.tt ?_
 refine Chain.nil ?_
 refine AW.seqR ?_
 refine Chain.runK [] 5 fun K hK => ?_; simp; refine hK _ _ ?_; clear hK K
 refine Chain.sub (S' := mk 8 [] [(3, .b (a0.Tx != a1))] []) Sub.tt ?_
 refine Chain.nil ?_
 refine AW.ret ?_
 cases h
 exact FinC.ret (by simp) (by simp)

end Go.Proofs.Ytifcmomjjkbboaa
