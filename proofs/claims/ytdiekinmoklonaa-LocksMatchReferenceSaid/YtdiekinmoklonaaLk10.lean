/- Functions of the program as functional programs; the code computes them. -/
import Derived.Test.YtdiekinmoklonaaLk9
namespace Go.Proofs.Ytdiekinmoklonaa
open Go.Ab Go.Rp
attribute [-simp] List.all_eq_true Array.all_toList Array.all_eq_true

/-- slices.DeleteFunc[[]stemma/locks.Lock,stemma/locks.Lock] -/
def d31 (N : Nat) (a0 : (List S29)) (p1 : S29 → Option Bool) : Option (List S29) :=
 (d37 N a0 p1).bind fun r1 =>
 if (r1 == (-1)) then (
  some a0
 ) else
 (chkI (r1 + 1)).bind fun v3 =>
 Option.bind (α := ((List S29) × Int)) (
  iterN (σ := ((List S29) × Int × Int)) (ρ := ((List S29) × Int)) (fun ((l15, v16, v17) : ((List S29) × Int × Int)) =>
   if v17 < (l15.length : Int) then (
    (idx l15 v17).bind fun x46 =>
    (p1 x46).bind fun r48 =>
    if (!r48) = true then (
     (idx l15 v16).bind fun _x50 =>
     letv (setI l15 v16 x46) fun l52 =>
     (chkI (v16 + 1)).bind fun v53 =>
     (chkI (v17 + 1)).bind fun v54 =>
     some (.inl (l52, v53, v54))
    ) else
    (chkI (v17 + 1)).bind fun v55 =>
    some (.inl (l15, v16, v55))
   ) else
   some (.inr (l15, v16))
  ) N (a0, r1, v3)
 ) fun ((l43, v44) : ((List S29) × Int)) =>
 (natI v44 l43.length).bind fun n56 =>
 (posN (l43.length - n56)).bind fun _ =>
 letv (l43.take n56 ++ (List.replicate (l43.length - n56) (S29.mk 0 (ByteArray.mk #[]) (ByteArray.mk #[]) 0) ++ l43.drop (n56 + (l43.length - n56)))) fun l57 =>
 (natI (n56 : Int) l57.length).bind fun n58 =>
 letv (l57.take n58) fun l59 =>
 some l59
set_option maxRecDepth 100000 in
set_option maxHeartbeats 4000000 in
theorem p31 (N : Nat) (a0 : (List S29)) (g1 : Nat) (cs1 : List D) (p1 : S29 → Option Bool) (ent_1 : Rp.Enters Try.prog g1) (hp1 : ∀ a0 r, p1 a0 = some r → FunC Try.prog g1 ([.agg [.i a0.Tx, .d (.lit (.string a0.Table)), .d (.lit (.string a0.Key)), .i a0.Mode]] ++ cs1.map .d) (.b r)) (r : (List S29)) (h : d31 N a0 p1 = some r) : FunM Try.prog 31 [.ref 1000 0 a0.length, .fn (.func g1) (cs1.map .d)] [(1000, R29 a0)] [1000] (.ref 1000 0 r.length) ([(1000, .arr 29 4 (r.map cS29))]) := by
 unfold d31 at h
 refine FunM.enter 42 [(0, .ref 1000 0 a0.length), (1, .fn (.func g1) (cs1.map .d))] Try.func31 rfl (of_decide_eq_true rfl) rfl rfl ?_
 refine AW.seqR ?_
 refine Chain.runK [] 1 fun K hK => ?_; simp; refine hK _ _ ?_; clear hK K
 refine Chain.sub (S' := mk 42 [1000] [(0, .ref 1000 0 a0.length), (1, .fn (.func g1) (cs1.map .d))] [(1000, R29 a0)]) Sub.tt ?_
 refine Chain.nil ?_
 refine AW.seqR ?_
 refine Chain.runK [] 2 fun K hK => ?_; simp; refine hK _ _ ?_; clear hK K
 refine Chain.sub (S' := mk 42 [1000] [(0, .ref 1000 0 a0.length), (1, .fn (.func g1) (cs1.map .d)), (8, .ref 1000 0 a0.length), (9, .fn (.func g1) (cs1.map .d))] [(1000, R29 a0)]) Sub.tt ?_
 replace h := bsome h; obtain ⟨r1, hr1, h⟩ := h
 refine Chain.callL (d := 10) (p37 N a0 g1 cs1 p1 ent_1 hp1 r1 hr1) (by simp) rfl rfl (by simp <;> rfl) (by simp <;> rfl) ent37 (by simp <;> rfl) ?_
 refine Chain.sub (S' := mk 42 [1000] [(0, .ref 1000 0 a0.length), (1, .fn (.func g1) (cs1.map .d)), (8, .ref 1000 0 a0.length), (9, .fn (.func g1) (cs1.map .d)), (10, .i r1)] [(1000, R29 a0)]) (by simp; exact Sub.table (by simp) (by simp)) ?_
 refine Chain.runK [] 1 fun K hK => ?_; simp; refine hK _ _ ?_; clear hK K
 refine Chain.sub (S' := mk 42 [1000] [(0, .ref 1000 0 a0.length), (1, .fn (.func g1) (cs1.map .d)), (5, .i r1)] [(1000, R29 a0)]) Sub.tt ?_
 refine Chain.nil ?_
 refine AW.seq ?_
 refine AW.seqR ?_
 refine Chain.runK [] 2 fun K hK => ?_; simp; refine hK _ _ ?_; clear hK K
 refine Chain.sub (S' := mk 42 [1000] [(0, .ref 1000 0 a0.length), (1, .fn (.func g1) (cs1.map .d)), (5, .i r1), (12, .b (r1 == (-1)))] [(1000, R29 a0)]) Sub.tt ?_
 refine Chain.nil ?_
 replace h := isome h; rcases h with ⟨c2, h⟩ | ⟨c2, h⟩
 ·have c2_ : (r1 == (-1)) = true := c2
  refine AW.condT (b := (r1 == (-1))) rfl c2_ ?_
  refine AW.sub (Sub.bool 12 (b := (r1 == (-1))) rfl c2_) ?_
  refine AW.sub (S' := mk 42 [1000] [(0, .ref 1000 0 a0.length), (1, .fn (.func g1) (cs1.map .d)), (5, .i r1), (12, .b true)] [(1000, R29 a0)]) (by simp; exact Sub.table (by simp) (by simp)) ?_
  refine AW.seqR ?_
  refine Chain.runK [] 2 fun K hK => ?_; simp; refine hK _ _ ?_; clear hK K
  refine Chain.sub (S' := mk 42 [1000] [(4, .ref 1000 0 a0.length)] [(1000, R29 a0)]) Sub.tt ?_
  refine Chain.nil ?_
  refine AW.ret ?_
  cases h
  refine thenQ_pass (by simp) ?_
  exact FinF.ret (by simp) (by simp)
 ·have c2_ : (r1 == (-1)) = false := Bool.eq_false_iff.2 c2
  refine AW.condF (b := (r1 == (-1))) rfl c2_ ?_
  refine AW.sub (Sub.bool 12 (b := (r1 == (-1))) rfl c2_) ?_
  refine AW.sub (S' := mk 42 [1000] [(0, .ref 1000 0 a0.length), (1, .fn (.func g1) (cs1.map .d)), (5, .i r1), (12, .b false)] [(1000, R29 a0)]) (by simp; exact Sub.table (by simp) (by simp)) ?_
  refine AW.skip ?_
  refine thenQ_normal ?_
  refine AW.seq ?_
  refine AW.seqR ?_
  replace h := bsome h; obtain ⟨v3, hv3, h⟩ := h
  have hv3 := chkI_some hv3
  refine Chain.runK [] 3 fun K hK => ?_; simp [hv3]; refine hK _ _ ?_; clear hK K
  refine Chain.sub (S' := mk 42 [1000] [(0, .ref 1000 0 a0.length), (1, .fn (.func g1) (cs1.map .d)), (5, .i r1), (6, .i v3)] [(1000, R29 a0)]) Sub.tt ?_
  refine Chain.nil ?_
  refine AW.lastN (fun ((l43, v44) : ((List S29) × Int)) => mk 42 [1000] [(0, .ref 1000 0 l43.length), (5, .i v44)] [(1000, R29 l43)]) h ?_ ?_ <;> clear h
  ·intro o h
   refine AW.block ?_
   refine AW.iter (fun ((l15, v16, v17) : ((List S29) × Int × Int)) => mk 42 [1000] [(0, .ref 1000 0 l15.length), (1, .fn (.func g1) (cs1.map .d)), (5, .i v16), (6, .i v17)] [(1000, R29 l15)]) h Sub.tt ?_
   clear h
   rintro ⟨l15, v16, v17⟩ x h
   dsimp only at h ⊢
   refine AW.seq ?_
   refine AW.seqR ?_
   refine Chain.runK [] 4 fun K hK => ?_; simp; refine hK _ _ ?_; clear hK K
   refine Chain.sub (S' := mk 42 [1000] [(0, .ref 1000 0 l15.length), (1, .fn (.func g1) (cs1.map .d)), (5, .i v16), (6, .i v17), (19, .b (decide (v17 < (l15.length : Int))))] [(1000, R29 l15)]) Sub.tt ?_
   refine Chain.nil ?_
   replace h := isome h; rcases h with ⟨c45, h⟩ | ⟨c45, h⟩
   ·have c45_ : decide (v17 < (l15.length : Int)) = true := decide_eq_true c45
    refine AW.condT (b := decide (v17 < (l15.length : Int))) rfl c45_ ?_
    refine AW.sub (Sub.bool 19 (b := decide (v17 < (l15.length : Int))) rfl c45_) ?_
    refine AW.sub (S' := mk 42 [1000] [(0, .ref 1000 0 l15.length), (1, .fn (.func g1) (cs1.map .d)), (5, .i v16), (6, .i v17), (19, .b true)] [(1000, R29 l15)]) (by simp; exact Sub.table (by simp) (by simp)) ?_
    refine AW.skip ?_
    refine thenQ_normal ?_
    refine AW.seq ?_
    refine AW.block ?_
    refine AW.seqR ?_
    replace h := bsome h; obtain ⟨x46, hx46, h⟩ := h
    obtain ⟨k47, hx46k, hx46, hx46a, hx46b⟩ := idx_some hx46
    refine Chain.runK [] 6 fun K hK => ?_; simp [hx46, hx46k, hx46a, hx46b]; refine hK _ _ ?_; clear hK K
    refine Chain.sub (S' := mk 42 [1000] [(0, .ref 1000 0 l15.length), (1, .fn (.func g1) (cs1.map .d)), (5, .i v16), (6, .i v17), (7, .ptr 7 0 0)] [(7, some (.box [.i x46.Tx, .d (.lit (.string x46.Table)), .d (.lit (.string x46.Key)), .i x46.Mode])), (1000, R29 l15)]) Sub.tt ?_
    refine Chain.nil ?_
    refine AW.seqR ?_
    refine Chain.runK [] 2 fun K hK => ?_; simp; refine hK _ _ ?_; clear hK K
    refine Chain.sub (S' := mk 42 [1000] [(0, .ref 1000 0 l15.length), (1, .fn (.func g1) (cs1.map .d)), (5, .i v16), (6, .i v17), (7, .ptr 7 0 0), (26, .fn (.func g1) (cs1.map .d)), (27, .agg [.i x46.Tx, .d (.lit (.string x46.Table)), .d (.lit (.string x46.Key)), .i x46.Mode])] [(7, some (.box [.i x46.Tx, .d (.lit (.string x46.Table)), .d (.lit (.string x46.Key)), .i x46.Mode])), (1000, R29 l15)]) Sub.tt ?_
    replace h := bsome h; obtain ⟨r48, hr48, h⟩ := h
    refine Chain.callL (d := 28) (hp1 x46 r48 hr48) (by simp) rfl rfl (by simp <;> rfl) (by simp <;> rfl) ent_1 (by simp <;> rfl) ?_
    refine Chain.sub (S' := mk 42 [1000] [(0, .ref 1000 0 l15.length), (1, .fn (.func g1) (cs1.map .d)), (5, .i v16), (6, .i v17), (7, .ptr 7 0 0), (26, .fn (.func g1) (cs1.map .d)), (27, .agg [.i x46.Tx, .d (.lit (.string x46.Table)), .d (.lit (.string x46.Key)), .i x46.Mode]), (28, .b r48)] [(7, some (.box [.i x46.Tx, .d (.lit (.string x46.Table)), .d (.lit (.string x46.Key)), .i x46.Mode])), (1000, R29 l15)]) (by simp; exact Sub.table (by simp) (by simp)) ?_
    refine Chain.runK [] 1 fun K hK => ?_; simp; refine hK _ _ ?_; clear hK K
    refine Chain.sub (S' := mk 42 [1000] [(0, .ref 1000 0 l15.length), (1, .fn (.func g1) (cs1.map .d)), (5, .i v16), (6, .i v17), (7, .ptr 7 0 0), (29, .b (!r48))] [(7, some (.box [.i x46.Tx, .d (.lit (.string x46.Table)), .d (.lit (.string x46.Key)), .i x46.Mode])), (1000, R29 l15)]) Sub.tt ?_
    refine Chain.nil ?_
    replace h := isome h; rcases h with ⟨c49, h⟩ | ⟨c49, h⟩
    ·have c49_ : (!r48) = true := c49
     refine AW.condT (b := (!r48)) rfl c49_ ?_
     refine AW.sub (Sub.bool 29 (b := (!r48)) rfl c49_) ?_
     refine AW.sub (S' := mk 42 [1000] [(0, .ref 1000 0 l15.length), (1, .fn (.func g1) (cs1.map .d)), (5, .i v16), (6, .i v17), (7, .ptr 7 0 0), (29, .b true)] [(7, some (.box [.i x46.Tx, .d (.lit (.string x46.Table)), .d (.lit (.string x46.Key)), .i x46.Mode])), (1000, R29 l15)]) (by simp; exact Sub.table (by simp) (by simp)) ?_
     refine AW.seqR ?_
     replace h := bsome h; obtain ⟨x50, hx50, h⟩ := h
     obtain ⟨k51, hx50k, hx50, hx50a, hx50b⟩ := idx_some hx50
     replace h := lsome h; obtain ⟨l52, gl52, h⟩ := h
     obtain ⟨hl52, hl52n⟩ := setI_some cS29 gl52 hx50k
     replace hl52 : (l15.map cS29).set k51 [.lit (.int .i64 x46.Tx), .lit (.string x46.Table), .lit (.string x46.Key), .lit (.int .i64 x46.Mode)] = l52.map cS29 := hl52
     clear gl52
     refine Chain.runK [] 5 fun K hK => ?_; simp [hx50, hx50k, hx50a, hx50b, hl52]; refine hK _ _ ?_; clear hK K
     refine Chain.sub (S' := mk 42 [1000] [(0, .ref 1000 0 l52.length), (1, .fn (.func g1) (cs1.map .d)), (5, .i v16), (6, .i v17)] [(1000, R29 l52)]) (Sub.table (by simp [hl52n]) (by simp)) ?_
     refine Chain.nil ?_
     refine AW.region ?_
     replace h := bsome h; obtain ⟨v53, hv53, h⟩ := h
     have hv53 := chkI_some hv53
     refine Chain.runK [] 3 fun K hK => ?_; simp [hv53]; refine hK _ _ ?_; clear hK K
     refine Chain.sub (S' := mk 42 [1000] [(0, .ref 1000 0 l52.length), (1, .fn (.func g1) (cs1.map .d)), (5, .i v53), (6, .i v17)] [(1000, R29 l52)]) Sub.tt ?_
     refine Chain.nil ?_
     refine blockQ.normal ?_
     refine thenQ_normal ?_
     refine AW.region ?_
     replace h := bsome h; obtain ⟨v54, hv54, h⟩ := h
     have hv54 := chkI_some hv54
     refine Chain.runK [] 3 fun K hK => ?_; simp [hv54]; refine hK _ _ ?_; clear hK K
     refine Chain.sub (S' := mk 42 [1000] [(0, .ref 1000 0 l52.length), (1, .fn (.func g1) (cs1.map .d)), (5, .i v53), (6, .i v54)] [(1000, R29 l52)]) Sub.tt ?_
     refine Chain.nil ?_
     cases h
     refine PostI.next ?_
     exact Sub.tt
    ·have c49_ : (!r48) = false := Bool.eq_false_iff.2 c49
     refine AW.condF (b := (!r48)) rfl c49_ ?_
     refine AW.sub (Sub.bool 29 (b := (!r48)) rfl c49_) ?_
     refine AW.sub (S' := mk 42 [1000] [(0, .ref 1000 0 l15.length), (1, .fn (.func g1) (cs1.map .d)), (5, .i v16), (6, .i v17), (7, .ptr 7 0 0), (29, .b false)] [(7, some (.box [.i x46.Tx, .d (.lit (.string x46.Table)), .d (.lit (.string x46.Key)), .i x46.Mode])), (1000, R29 l15)]) (by simp; exact Sub.table (by simp) (by simp)) ?_
     refine AW.skip ?_
     refine blockQ.normal ?_
     refine thenQ_normal ?_
     refine AW.region ?_
     replace h := bsome h; obtain ⟨v55, hv55, h⟩ := h
     have hv55 := chkI_some hv55
     refine Chain.runK [] 3 fun K hK => ?_; simp [hv55]; refine hK _ _ ?_; clear hK K
     refine Chain.sub (S' := mk 42 [1000] [(0, .ref 1000 0 l15.length), (1, .fn (.func g1) (cs1.map .d)), (5, .i v16), (6, .i v55)] [(1000, R29 l15)]) Sub.tt ?_
     refine Chain.nil ?_
     cases h
     refine PostI.next ?_
     exact Sub.tt
   ·have c45_ : decide (v17 < (l15.length : Int)) = false := decide_eq_false c45
    refine AW.condF (b := decide (v17 < (l15.length : Int))) rfl c45_ ?_
    refine AW.sub (Sub.bool 19 (b := decide (v17 < (l15.length : Int))) rfl c45_) ?_
    refine AW.sub (S' := mk 42 [1000] [(0, .ref 1000 0 l15.length), (1, .fn (.func g1) (cs1.map .d)), (5, .i v16), (6, .i v17), (19, .b false)] [(1000, R29 l15)]) (by simp; exact Sub.table (by simp) (by simp)) ?_
    refine AW.exit ?_
    cases h
    refine thenQ_pass (by simp) ?_
    refine PostI.out (by simp) ?_
    rintro rfl
    refine blockQ.hit ?_
    refine PostN.next ?_
    exact Sub.tt
  ·rintro ⟨l43, v44⟩ h
   dsimp only at h ⊢
   refine thenQ_normal ?_
   refine AW.seqR ?_
   replace h := bsome h; obtain ⟨n56, gn56, h⟩ := h
   obtain ⟨hn56a, hn56⟩ := natI_some gn56
   clear gn56
   subst hn56a
   refine Chain.runK [] 3 fun K hK => ?_; simp [hn56]; refine hK _ _ ?_; clear hK K
   refine Chain.sub (S' := mk 42 [1000] [(0, .ref 1000 0 l43.length), (5, .i (n56 : Int)), (38, .ref 1000 n56 (l43.length - n56))] [(1000, R29 l43)]) Sub.tt ?_
   replace h := bsome h; obtain ⟨ql57, pl57, h⟩ := h
   replace pl57 := posN_some pl57
   replace h := lsome h; obtain ⟨l57, gl57, h⟩ := h
   have hl57 : (l43.map cS29).take n56 ++ (List.replicate (l43.length - n56) [.lit (.int .i64 0), .lit (.string (ByteArray.mk #[])), .lit (.string (ByteArray.mk #[])), .lit (.int .i64 0)] ++ (l43.map cS29).drop (n56 + (l43.length - n56))) = l57.map cS29 := by rw [← gl57]; simp
   have hl57l : l57.length = l43.length := by rw [← gl57]; simp only [List.length_append, List.length_take, List.length_drop, List.length_replicate]; omega
   refine Chain.clear (id := 1000) (off := n56) (len := (l43.length - n56)) (es := l43.map cS29) (tt := ⟨_, _, _, _⟩) (te := ⟨_, 4, 48, _⟩) (by simp) rfl rfl rfl rfl ty46 rfl ty29 rfl rfl (by simp) (by simp) (by simp; omega) pl57 ?_
   refine Chain.sub (S' := mk 42 [1000] [(0, .ref 1000 0 l57.length), (5, .i (n56 : Int))] [(1000, R29 l57)]) (by simp [hl57]; exact Sub.table (by simp [hl57l]) (by simp)) ?_
   refine Chain.nil ?_
   refine AW.seqR ?_
   replace h := bsome h; obtain ⟨n58, gn58, h⟩ := h
   obtain ⟨hn58a, hn58⟩ := natI_some gn58
   clear gn58
   refine Chain.runK [] 4 fun K hK => ?_; simp [hn58, hn58a]; refine hK _ _ ?_; clear hK K
   refine Chain.sub (S' := mk 42 [1000] [(4, .ref 1000 0 n58)] [(1000, R29 l57)]) (Sub.table (by simp) (by simp)) ?_
   refine Chain.nil ?_
   replace h := lsome h; obtain ⟨l59, gl59, h⟩ := h
   have hl59k : n58 = l59.length := by rw [← gl59, List.length_take]; omega
   subst hl59k
   have hl59 : (l57.map cS29).take l59.length = l59.map cS29 := by rw [← List.map_take, gl59]
   clear gl59
   refine AW.sub (Sub.cut 1000 l59.length rfl) ?_
   refine AW.sub (S' := mk 42 [1000] [(4, .ref 1000 0 l59.length)] [(1000, R29 l59)]) (by simp [hl59]; exact Sub.table (by simp) (by simp)) ?_
   refine AW.ret ?_
   cases h
   exact FinF.ret (by simp) (by simp)

/-- slices.Delete[[]stemma/locks.Lock,stemma/locks.Lock] -/
def d32 (_ : Nat) (a0 : (List S29)) (a1 a2 : Int) : Option (List S29) := delL a0 a1 a2
theorem p32 (N : Nat) (a0 : (List S29)) (a1 a2 : Int) (r : (List S29)) (h : d32 N a0 a1 a2 = some r) : FunM Try.prog 32 [.ref 1000 0 a0.length, .i a1, .i a2] [(1000, some (.arr 29 4 (a0.map cS29)))] [] (.ref 1000 0 r.length) [(1000, .arr 29 4 (r.map cS29))] := by
 obtain ⟨i, j, rfl, rfl, hij, hj, hrl, hr⟩ := delL_some cS29 h
 have hes : ∀ x ∈ a0.map cS29, x.length = 4 := fun x hx => by
  obtain ⟨y, _, rfl⟩ := List.mem_map.1 hx
  rfl
 rw [hr, hrl]
 have hel : (a0.map cS29).length = a0.length := by simp
 rw [← hel] at hj hrl ⊢
 clear hel h hr hrl
 generalize a0.map cS29 = es at *
 refine FunM.enter 33 [(0, .ref 1000 0 es.length), (1, .i i), (2, .i j)] Try.func32 rfl (of_decide_eq_true rfl) rfl rfl ?_
 refine AW.goR [] 1 fun K hK => ?_; simp; refine hK _ ?_; clear hK K
 refine AW.seqR ?_
 refine Chain.runK [] 5 fun K hK => ?_; simp; refine hK _ _ ?_; clear hK K
 have hjn : (j : Int) ≤ es.length := by omega
 have hin : (i : Int) ≤ j := by omega
 refine Chain.slice3 (id := 1000) (off := 0) (len := es.length) (mq := es.length) (hq := j) (lq := i) (by simp) rfl ty46 rfl ty29 rfl (by simp [bnd]) (by simp [bnd, hj]) (by simp [bnd]; omega) ?_
 refine Chain.nil ?_
 have hne : ¬ ((i : Int) = j) := by omega
 refine AW.seq ?_
 refine AW.goR [] 3 fun K hK => ?_; simp; refine hK _ ?_; clear hK K
 refine AW.condK fun K1 K2 k1 k2 => ?_; simp [hne]; refine k2 ?_; clear k1 k2 K1 K2
 refine AW.skip ?_
 refine thenQ_normal ?_
 refine AW.goR [] 3 fun K hK => ?_; simp; refine hK _ ?_; clear hK K
 refine AW.seqT 6 (by kernel_rfl) (by kernel_rfl) fun K hK => ?_
 simp [show i ≤ es.length by omega, hj]; refine hK _ _ ?_; clear hK K
 have htk : List.take (es.length - j) (es.drop j) = es.drop j := List.take_of_length_le (by simp)
 refine Chain.cut (mk 33 [] [(0, .ref 1000 0 (i + (es.length - j))), (7, .i es.length)] [(1000, some (.arr 29 4 (es.take i ++ (es.drop j ++ es.drop (i + (es.length - j))))))]) ?_ fun S' hS => AW.sub hS ?_
 ·by_cases hje : j = es.length
  ·have hdn : es.drop j = [] := by rw [hje]; simp
   refine Chain.appNo (id := 1000) (len := i) (es := es) (te := ⟨_, 4, 48, _⟩) (by simp) rfl rfl rfl rfl ty46 rfl ty29 rfl rfl (by simp [srcV, hje]) (by omega) (by omega) ?_
   refine Chain.runK [] 1 fun K hK => ?_; simp; refine hK _ _ ?_; clear hK K
   refine Chain.nil ?_
   exact Sub.table (by simp [hje]) (by simp [hje])
  ·refine Chain.appIn (id := 1000) (len := i) (es := es) (ys := es.drop j) (te := ⟨_, 4, 48, _⟩) (by simp) rfl rfl rfl rfl ty46 rfl ty29 rfl rfl (by simp [srcV, show j + (es.length - j) ≤ es.length by omega]) (fun y hy => hes y (List.mem_of_mem_drop hy)) (by simp; omega) (by simp; omega) ?_
   refine Chain.runK [] 1 fun K hK => ?_; simp; refine hK _ _ ?_; clear hK K
   refine Chain.nil ?_
   exact Sub.table (by simp) (by simp)
 have hl2 : (es.take i ++ (es.drop j ++ es.drop (i + (es.length - j)))).length = es.length := by simp; omega
 have hes2 : ∀ x ∈ (es.take i ++ (es.drop j ++ es.drop (i + (es.length - j)))), x.length = 4 := fun x hx => by
  rcases List.mem_append.1 hx with hx | hx
  ·exact hes x (List.mem_of_mem_take hx)
  ·rcases List.mem_append.1 hx with hx | hx
   ·exact hes x (List.mem_of_mem_drop hx)
   ·exact hes x (List.mem_of_mem_drop hx)
 have htk2 : (es.take i ++ (es.drop j ++ es.drop (i + (es.length - j)))).take (i + (es.length - j)) = es.take i ++ es.drop j := by
  rw [← List.append_assoc]
  exact List.take_left' (by simp; omega)
 generalize (es.take i ++ (es.drop j ++ es.drop (i + (es.length - j)))) = es2 at hl2 hes2 htk2 ⊢
 refine AW.seqR ?_
 refine Chain.runK [] 4 fun K hK => ?_; simp; refine hK _ _ ?_; clear hK K
 refine Chain.sliceX (id := 1000) (off := 0) (len := i + (es.length - j)) (es := es2) (hq := es.length) (lq := i + (es.length - j)) (te := ⟨_, 4, 48, _⟩) (by simp) rfl ty46 rfl ty29 rfl rfl (by omega) (by omega) (by simp [bnd, hl2]) (by simp [bnd]; omega) ?_
 simp
 refine Chain.clear (id := 1000) (off := i + (es.length - j)) (len := es.length - (i + (es.length - j))) (es := es2) (te := ⟨_, 4, 48, _⟩) (by simp) rfl rfl rfl rfl ty46 rfl ty29 (by simp) (by simp) rfl rfl (by omega) (by omega) ?_
 simp
 refine Chain.nil ?_
 refine AW.goR [] 2 fun K hK => ?_; simp; refine hK _ ?_; clear hK K
 have hcl : ∀ zs : List (List D), List.take (i + (es.length - j)) (es.take i ++ (es.drop j ++ zs)) = es.take i ++ es.drop j := fun zs => by
  rw [← List.append_assoc]
  exact List.take_left' (by simp; omega)
 refine AW.sub (Sub.cut 1000 (i + (es.length - j)) rfl) ?_
 refine AW.sub (S' := mk 33 [] [(6, .ref 1000 0 (i + (es.length - j)))] [(1000, some (.arr 29 4 (es.take i ++ es.drop j)))]) (by simp [htk2]; exact Sub.table (by simp) (by simp [hcl])) ?_
 refine AW.ret ?_
 exact FinF.ret (by simp) (by simp)

/-- (*stemma/locks.Manager).ReleaseAll -/
def d9 (N : Nat) (a0 : S48) (a1 : Int) : Option (S48 × (List Int) × Int) :=
 Option.bind (α := Bool) (
  if a1 < 0 then (
   some true
  ) else
  some (decide (a1 ≥ 20))
 ) fun (v2 : Bool) =>
 if v2 = true then (
  some (a0, ([] : List Int), 1)
 ) else
 (d31 N a0.granted (fun b0 => d30 N b0 a1)).bind fun r5 =>
 (d31 N a0.queue (fun b0 => d30 N b0 a1)).bind fun r6 =>
 Option.bind (α := ((List Int) × (List S29) × (List S29))) (
  iterN (σ := ((List S29) × (List S29) × (List Int) × Int)) (ρ := ((List Int) × (List S29) × (List S29))) (fun ((l16, l17, l18, v19) : ((List S29) × (List S29) × (List Int) × Int)) =>
   if v19 < (l17.length : Int) then (
    (idx l17 v19).bind fun x48 =>
    (d20 N (S48.mk l16 l17) x48 v19).bind fun r50 =>
    if (r50.length : Int) > 0 then (
     (chkI (v19 + 1)).bind fun v52 =>
     some (.inl (l16, l17, l18, v52))
    ) else
    (d21 N (S48.mk l16 l17) x48).bind fun r53 =>
    (chkI (v19 + 1)).bind fun v54 =>
    (d32 N r53.queue v19 v54).bind fun l55 =>
    (appL 8 l18 [x48.Tx]).bind fun _l56 =>
    some (.inl (r53.granted, l55, (l18 ++ [x48.Tx]), v19))
   ) else
   some (.inr (l18, l16, l17))
  ) N (r5, r6, ([] : List Int), 0)
 ) fun ((l44, l45, l46) : ((List Int) × (List S29) × (List S29))) =>
 some ((S48.mk l45 l46), l44, 0)
set_option maxRecDepth 100000 in
set_option maxHeartbeats 4000000 in
theorem p9 (N : Nat) (a0 : S48) (a1 : Int) (r : (S48 × (List Int) × Int)) (h : d9 N a0 a1 = some r) : FunM Try.prog 9 [.ptr 1000 0 0, .i a1] [(1000, some (.box [.ref 25000 0 a0.granted.length, .ref 25001 0 a0.queue.length])), (25000, R29 a0.granted), (25001, R29 a0.queue)] [1000] (.tup [.d (.sl (r.2.1.map (cI .i64))), .i r.2.2]) ([(1000, (.box [.ref 25000 0 r.1.granted.length, .ref 25001 0 r.1.queue.length])), (25000, (.arr 29 4 (r.1.granted.map cS29))), (25001, (.arr 29 4 (r.1.queue.map cS29)))]) := by
 unfold d9 at h
 refine FunM.enter 77 [(0, .ptr 1000 0 0), (1, .i a1)] Try.func9 rfl (of_decide_eq_true rfl) rfl rfl ?_
 refine AW.seqR ?_
 refine Chain.runK [] 3 fun K hK => ?_; simp; refine hK _ _ ?_; clear hK K
 refine Chain.sub (S' := mk 77 [1000] [(0, .ptr 1000 0 0), (3, .ptr 3 0 0)] [(3, some (.box [.i a1])), (1000, some (.box [.ref 25000 0 a0.granted.length, .ref 25001 0 a0.queue.length])), (25000, R29 a0.granted), (25001, R29 a0.queue)]) Sub.tt ?_
 refine Chain.nil ?_
 refine AW.seq ?_
 replace h := bsome h; obtain ⟨v2, hj, h⟩ := h
 refine AW.cutR (mk 77 [1000] [(0, .ptr 1000 0 0), (3, .ptr 3 0 0), (15, .b v2)] [(3, some (.box [.i a1])), (1000, some (.box [.ref 25000 0 a0.granted.length, .ref 25001 0 a0.queue.length])), (25000, R29 a0.granted), (25001, R29 a0.queue)]) ?_ ?_
 ·clear h; have h := hj; clear hj
  refine Chain.runK [] 3 fun K hK => ?_; simp; refine hK _ _ ?_; clear hK K
  refine Chain.sub (S' := mk 77 [1000] [(0, .ptr 1000 0 0), (3, .ptr 3 0 0), (12, .b (decide (a1 < 0)))] [(3, some (.box [.i a1])), (1000, some (.box [.ref 25000 0 a0.granted.length, .ref 25001 0 a0.queue.length])), (25000, R29 a0.granted), (25001, R29 a0.queue)]) Sub.tt ?_
  replace h := isome h; rcases h with ⟨c3, h⟩ | ⟨c3, h⟩
  ·have c3_ : decide (a1 < 0) = true := decide_eq_true c3
   refine Chain.sub (Sub.bool 12 (b := decide (a1 < 0)) rfl c3_) ?_
   refine Chain.sub (S' := mk 77 [1000] [(0, .ptr 1000 0 0), (3, .ptr 3 0 0), (12, .b true)] [(3, some (.box [.i a1])), (1000, some (.box [.ref 25000 0 a0.granted.length, .ref 25001 0 a0.queue.length])), (25000, R29 a0.granted), (25001, R29 a0.queue)]) (by simp; exact Sub.table (by simp) (by simp)) ?_
   refine Chain.runK [] 3 fun K hK => ?_; simp; refine hK _ _ ?_; clear hK K
   refine Chain.sub (S' := mk 77 [1000] [(0, .ptr 1000 0 0), (3, .ptr 3 0 0), (15, .b true)] [(3, some (.box [.i a1])), (1000, some (.box [.ref 25000 0 a0.granted.length, .ref 25001 0 a0.queue.length])), (25000, R29 a0.granted), (25001, R29 a0.queue)]) Sub.tt ?_
   cases h
   exact Chain.nil Sub.tt
  ·have c3_ : decide (a1 < 0) = false := decide_eq_false c3
   refine Chain.sub (Sub.bool 12 (b := decide (a1 < 0)) rfl c3_) ?_
   refine Chain.sub (S' := mk 77 [1000] [(0, .ptr 1000 0 0), (3, .ptr 3 0 0), (12, .b false)] [(3, some (.box [.i a1])), (1000, some (.box [.ref 25000 0 a0.granted.length, .ref 25001 0 a0.queue.length])), (25000, R29 a0.granted), (25001, R29 a0.queue)]) (by simp; exact Sub.table (by simp) (by simp)) ?_
   refine Chain.runK [] 3 fun K hK => ?_; simp; refine hK _ _ ?_; clear hK K
   refine Chain.sub (S' := mk 77 [1000] [(0, .ptr 1000 0 0), (3, .ptr 3 0 0), (15, .b (decide (a1 ≥ 20)))] [(3, some (.box [.i a1])), (1000, some (.box [.ref 25000 0 a0.granted.length, .ref 25001 0 a0.queue.length])), (25000, R29 a0.granted), (25001, R29 a0.queue)]) Sub.tt ?_
   cases h
   exact Chain.nil Sub.tt
 ·clear hj
  replace h := isome h; rcases h with ⟨c4, h⟩ | ⟨c4, h⟩
  ·have c4_ : v2 = true := c4
   refine AW.condT (b := v2) rfl c4_ ?_
   refine AW.sub (Sub.bool 15 (b := v2) rfl c4_) ?_
   refine AW.sub (S' := mk 77 [1000] [(0, .ptr 1000 0 0), (3, .ptr 3 0 0), (15, .b true)] [(3, some (.box [.i a1])), (1000, some (.box [.ref 25000 0 a0.granted.length, .ref 25001 0 a0.queue.length])), (25000, R29 a0.granted), (25001, R29 a0.queue)]) (by simp; exact Sub.table (by simp) (by simp)) ?_
   refine AW.seqR ?_
   refine Chain.runK [] 2 fun K hK => ?_; simp; refine hK _ _ ?_; clear hK K
   refine Chain.sub (S' := mk 77 [1000] [(4, .d (.lit (.slice none 0 0))), (5, .i 1)] [(1000, some (.box [.ref 25000 0 a0.granted.length, .ref 25001 0 a0.queue.length])), (25000, R29 a0.granted), (25001, R29 a0.queue)]) Sub.tt ?_
   refine Chain.nil ?_
   refine AW.sub (Sub.wk 4 rfl) ?_
   refine AW.sub (S' := mk 77 [1000] [(4, .d (.sl (([] : List Int).map (cI .i64)))), (5, .i 1)] [(1000, some (.box [.ref 25000 0 a0.granted.length, .ref 25001 0 a0.queue.length])), (25000, R29 a0.granted), (25001, R29 a0.queue)]) (by simp; exact Sub.table (by simp) (by simp)) ?_
   refine AW.ret ?_
   cases h
   refine thenQ_pass (by simp) ?_
   exact FinF.ret (by simp) (by simp)
  ·have c4_ : v2 = false := Bool.eq_false_iff.2 c4
   refine AW.condF (b := v2) rfl c4_ ?_
   refine AW.sub (Sub.bool 15 (b := v2) rfl c4_) ?_
   refine AW.sub (S' := mk 77 [1000] [(0, .ptr 1000 0 0), (3, .ptr 3 0 0), (15, .b false)] [(3, some (.box [.i a1])), (1000, some (.box [.ref 25000 0 a0.granted.length, .ref 25001 0 a0.queue.length])), (25000, R29 a0.granted), (25001, R29 a0.queue)]) (by simp; exact Sub.table (by simp) (by simp)) ?_
   refine AW.skip ?_
   refine thenQ_normal ?_
   refine AW.seqR ?_
   refine Chain.runK [] 2 fun K hK => ?_; simp; refine hK _ _ ?_; clear hK K
   refine Chain.sub (S' := mk 77 [1000] [(0, .ptr 1000 0 0), (6, .fn (.func 30) [.ptr 3 0 0])] [(3, some (.box [.i a1])), (1000, some (.box [.ref 25000 0 a0.granted.length, .ref 25001 0 a0.queue.length])), (25000, R29 a0.granted), (25001, R29 a0.queue)]) Sub.tt ?_
   refine Chain.nil ?_
   refine AW.seqR ?_
   refine Chain.runK [] 6 fun K hK => ?_; simp; refine hK _ _ ?_; clear hK K
   refine Chain.sub (S' := mk 77 [1000] [(0, .ptr 1000 0 0), (6, .fn (.func 30) [.ptr 3 0 0]), (17, .ptr 1000 0 0), (21, .ref 25000 0 a0.granted.length), (22, .fn (.func 30) [.ptr 3 0 0])] [(3, some (.box [.i a1])), (1000, some (.box [.ref 25000 0 a0.granted.length, .ref 25001 0 a0.queue.length])), (25000, R29 a0.granted), (25001, R29 a0.queue)]) Sub.tt ?_
   refine Chain.sub (Sub.freezeBox 3 [.lit (.int .i64 a1)] rfl) ?_
   refine Chain.sub (S' := mk 77 [1000] [(0, .ptr 1000 0 0), (6, .fn (.func 30) [.d (.pim [.lit (.int .i64 a1)])]), (17, .ptr 1000 0 0), (21, .ref 25000 0 a0.granted.length), (22, .fn (.func 30) [.d (.pim [.lit (.int .i64 a1)])])] [(1000, some (.box [.ref 25000 0 a0.granted.length, .ref 25001 0 a0.queue.length])), (25000, R29 a0.granted), (25001, R29 a0.queue)]) (by simp; exact Sub.table (by simp) (by simp)) ?_
   replace h := bsome h; obtain ⟨r5, hr5, h⟩ := h
   refine Chain.callF (p31 N a0.granted 30 [.pim [.lit (.int .i64 a1)]] (fun b0 => d30 N b0 a1) ent30 (fun b0 r h => p30 N b0 a1 r h) r5 hr5) [(25000, 1000)] [25000] [(1000, 25000)] [(25000, .arr 29 4 (r5.map cS29))] (.ref 25000 0 r5.length) (by simp) rfl (by simp <;> rfl) (by simp) (by simp) (by simp) (by simp) (by simp) ent31 (by simp) (by simp) (by simp) (by simp) (by simp) (by simp) ?_
   refine Chain.sub (S' := mk 77 [1000] [(0, .ptr 1000 0 0), (6, .fn (.func 30) [.d (.pim [.lit (.int .i64 a1)])]), (17, .ptr 1000 0 0), (22, .fn (.func 30) [.d (.pim [.lit (.int .i64 a1)])]), (23, .ref 25000 0 r5.length)] [(1000, some (.box [.ref 25000 0 a0.granted.length, .ref 25001 0 a0.queue.length])), (25000, R29 r5), (25001, R29 a0.queue)]) (by simp; exact Sub.table (by simp) (by simp)) ?_
   refine Chain.runK [] 3 fun K hK => ?_; simp; refine hK _ _ ?_; clear hK K
   refine Chain.sub (S' := mk 77 [1000] [(0, .ptr 1000 0 0), (6, .fn (.func 30) [.d (.pim [.lit (.int .i64 a1)])])] [(1000, some (.box [.ref 25000 0 r5.length, .ref 25001 0 a0.queue.length])), (25000, R29 r5), (25001, R29 a0.queue)]) Sub.tt ?_
   refine Chain.nil ?_
   refine AW.seqR ?_
   refine Chain.runK [] 6 fun K hK => ?_; simp; refine hK _ _ ?_; clear hK K
   refine Chain.sub (S' := mk 77 [1000] [(0, .ptr 1000 0 0), (26, .ptr 1000 0 0), (30, .ref 25001 0 a0.queue.length), (31, .fn (.func 30) [.d (.pim [.lit (.int .i64 a1)])])] [(1000, some (.box [.ref 25000 0 r5.length, .ref 25001 0 a0.queue.length])), (25000, R29 r5), (25001, R29 a0.queue)]) Sub.tt ?_
   replace h := bsome h; obtain ⟨r6, hr6, h⟩ := h
   refine Chain.callF (p31 N a0.queue 30 [.pim [.lit (.int .i64 a1)]] (fun b0 => d30 N b0 a1) ent30 (fun b0 r h => p30 N b0 a1 r h) r6 hr6) [(25001, 1000)] [25001] [(1000, 25001)] [(25001, .arr 29 4 (r6.map cS29))] (.ref 25001 0 r6.length) (by simp) rfl (by simp <;> rfl) (by simp) (by simp) (by simp) (by simp) (by simp) ent31 (by simp) (by simp) (by simp) (by simp) (by simp) (by simp) ?_
   refine Chain.sub (S' := mk 77 [1000] [(0, .ptr 1000 0 0), (26, .ptr 1000 0 0), (31, .fn (.func 30) [.d (.pim [.lit (.int .i64 a1)])]), (32, .ref 25001 0 r6.length)] [(1000, some (.box [.ref 25000 0 r5.length, .ref 25001 0 a0.queue.length])), (25000, R29 r5), (25001, R29 r6)]) (by simp; exact Sub.table (by simp) (by simp)) ?_
   refine Chain.runK [] 3 fun K hK => ?_; simp; refine hK _ _ ?_; clear hK K
   refine Chain.sub (S' := mk 77 [1000] [(0, .ptr 1000 0 0)] [(1000, some (.box [.ref 25000 0 r5.length, .ref 25001 0 r6.length])), (25000, R29 r5), (25001, R29 r6)]) Sub.tt ?_
   refine Chain.nil ?_
   refine AW.seqR ?_
   refine Chain.runK [] 1 fun K hK => ?_; simp; refine hK _ _ ?_; clear hK K
   refine Chain.sub (S' := mk 77 [1000] [(0, .ptr 1000 0 0), (7, .d (.lit (.slice none 0 0)))] [(1000, some (.box [.ref 25000 0 r5.length, .ref 25001 0 r6.length])), (25000, R29 r5), (25001, R29 r6)]) Sub.tt ?_
   refine Chain.nil ?_
   refine AW.seq ?_
   refine AW.seqR ?_
   refine Chain.runK [] 1 fun K hK => ?_; simp; refine hK _ _ ?_; clear hK K
   refine Chain.sub (S' := mk 77 [1000] [(0, .ptr 1000 0 0), (7, .d (.lit (.slice none 0 0))), (8, .i 0)] [(1000, some (.box [.ref 25000 0 r5.length, .ref 25001 0 r6.length])), (25000, R29 r5), (25001, R29 r6)]) Sub.tt ?_
   refine Chain.nil ?_
   refine AW.lastN (fun ((l44, l45, l46) : ((List Int) × (List S29) × (List S29))) => mk 77 [1000] [(7, .ref 75 0 l44.length)] [(75, R3 l44), (1000, some (.box [.ref 25000 0 l45.length, .ref 25001 0 l46.length])), (25000, R29 l45), (25001, R29 l46)]) h ?_ ?_ <;> clear h
   ·intro o h
    refine AW.block ?_
    refine AW.iter (fun ((l16, l17, l18, v19) : ((List S29) × (List S29) × (List Int) × Int)) => mk 77 [1000] [(0, .ptr 1000 0 0), (7, .ref 75 0 l18.length), (8, .i v19)] [(75, R3 l18), (1000, some (.box [.ref 25000 0 l16.length, .ref 25001 0 l17.length])), (25000, R29 l16), (25001, R29 l17)]) h (Sub.trans (Sub.nilOwn (t := 7) (id := 75) (T := 3) (n := 1) rfl rfl (by decide)) (by simp; exact Sub.table (by simp) (by simp))) ?_
    clear h
    rintro ⟨l16, l17, l18, v19⟩ x h
    dsimp only at h ⊢
    refine AW.seq ?_
    refine AW.seqR ?_
    refine Chain.runK [] 7 fun K hK => ?_; simp; refine hK _ _ ?_; clear hK K
    refine Chain.sub (S' := mk 77 [1000] [(0, .ptr 1000 0 0), (7, .ref 75 0 l18.length), (8, .i v19), (41, .b (decide (v19 < (l17.length : Int))))] [(75, R3 l18), (1000, some (.box [.ref 25000 0 l16.length, .ref 25001 0 l17.length])), (25000, R29 l16), (25001, R29 l17)]) Sub.tt ?_
    refine Chain.nil ?_
    replace h := isome h; rcases h with ⟨c47, h⟩ | ⟨c47, h⟩
    ·have c47_ : decide (v19 < (l17.length : Int)) = true := decide_eq_true c47
     refine AW.condT (b := decide (v19 < (l17.length : Int))) rfl c47_ ?_
     refine AW.sub (Sub.bool 41 (b := decide (v19 < (l17.length : Int))) rfl c47_) ?_
     refine AW.sub (S' := mk 77 [1000] [(0, .ptr 1000 0 0), (7, .ref 75 0 l18.length), (8, .i v19), (41, .b true)] [(75, R3 l18), (1000, some (.box [.ref 25000 0 l16.length, .ref 25001 0 l17.length])), (25000, R29 l16), (25001, R29 l17)]) (by simp; exact Sub.table (by simp) (by simp)) ?_
     refine AW.skip ?_
     refine thenQ_normal ?_
     refine AW.block ?_
     refine AW.seqR ?_
     replace h := bsome h; obtain ⟨x48, hx48, h⟩ := h
     obtain ⟨k49, hx48k, hx48, hx48a, hx48b⟩ := idx_some hx48
     refine Chain.runK [] 9 fun K hK => ?_; simp [hx48, hx48k, hx48a, hx48b]; refine hK _ _ ?_; clear hK K
     refine Chain.sub (S' := mk 77 [1000] [(0, .ptr 1000 0 0), (7, .ref 75 0 l18.length), (8, .i v19), (9, .ptr 9 0 0)] [(9, some (.box [.i x48.Tx, .d (.lit (.string x48.Table)), .d (.lit (.string x48.Key)), .i x48.Mode])), (75, R3 l18), (1000, some (.box [.ref 25000 0 l16.length, .ref 25001 0 l17.length])), (25000, R29 l16), (25001, R29 l17)]) Sub.tt ?_
     refine Chain.nil ?_
     refine AW.seq ?_
     refine AW.seqR ?_
     refine Chain.runK [] 3 fun K hK => ?_; simp; refine hK _ _ ?_; clear hK K
     refine Chain.sub (S' := mk 77 [1000] [(0, .ptr 1000 0 0), (7, .ref 75 0 l18.length), (8, .i v19), (9, .ptr 9 0 0), (49, .ptr 1000 0 0), (50, .agg [.i x48.Tx, .d (.lit (.string x48.Table)), .d (.lit (.string x48.Key)), .i x48.Mode]), (51, .i v19)] [(9, some (.box [.i x48.Tx, .d (.lit (.string x48.Table)), .d (.lit (.string x48.Key)), .i x48.Mode])), (75, R3 l18), (1000, some (.box [.ref 25000 0 l16.length, .ref 25001 0 l17.length])), (25000, R29 l16), (25001, R29 l17)]) Sub.tt ?_
     replace h := bsome h; obtain ⟨r50, hr50, h⟩ := h
     refine Chain.callOF (d := 52) (p20 N (S48.mk l16 l17) x48 v19 r50 hr50) (by simp) rfl rfl (by simp <;> rfl) (by simp <;> rfl) ent20 (by simp) (fun r h => flat_of_ren r h) (flat_map (by simp [cI]) _) ?_
     refine Chain.sub (S' := mk 77 [1000] [(0, .ptr 1000 0 0), (7, .ref 75 0 l18.length), (8, .i v19), (9, .ptr 9 0 0), (49, .ptr 1000 0 0), (50, .agg [.i x48.Tx, .d (.lit (.string x48.Table)), .d (.lit (.string x48.Key)), .i x48.Mode]), (51, .i v19), (52, .ref 52 0 r50.length)] [(9, some (.box [.i x48.Tx, .d (.lit (.string x48.Table)), .d (.lit (.string x48.Key)), .i x48.Mode])), (52, R3 r50), (75, R3 l18), (1000, some (.box [.ref 25000 0 l16.length, .ref 25001 0 l17.length])), (25000, R29 l16), (25001, R29 l17)]) (by simp; exact Sub.table (by simp) (by simp)) ?_
     refine Chain.runK [] 2 fun K hK => ?_; simp; refine hK _ _ ?_; clear hK K
     refine Chain.sub (S' := mk 77 [1000] [(0, .ptr 1000 0 0), (7, .ref 75 0 l18.length), (8, .i v19), (9, .ptr 9 0 0), (54, .b (decide ((r50.length : Int) > 0)))] [(9, some (.box [.i x48.Tx, .d (.lit (.string x48.Table)), .d (.lit (.string x48.Key)), .i x48.Mode])), (75, R3 l18), (1000, some (.box [.ref 25000 0 l16.length, .ref 25001 0 l17.length])), (25000, R29 l16), (25001, R29 l17)]) Sub.tt ?_
     refine Chain.nil ?_
     replace h := isome h; rcases h with ⟨c51, h⟩ | ⟨c51, h⟩
     ·have c51_ : decide ((r50.length : Int) > 0) = true := decide_eq_true c51
      refine AW.condT (b := decide ((r50.length : Int) > 0)) rfl c51_ ?_
      refine AW.sub (Sub.bool 54 (b := decide ((r50.length : Int) > 0)) rfl c51_) ?_
      refine AW.sub (S' := mk 77 [1000] [(0, .ptr 1000 0 0), (7, .ref 75 0 l18.length), (8, .i v19), (9, .ptr 9 0 0), (54, .b true)] [(9, some (.box [.i x48.Tx, .d (.lit (.string x48.Table)), .d (.lit (.string x48.Key)), .i x48.Mode])), (75, R3 l18), (1000, some (.box [.ref 25000 0 l16.length, .ref 25001 0 l17.length])), (25000, R29 l16), (25001, R29 l17)]) (by simp; exact Sub.table (by simp) (by simp)) ?_
      refine AW.seqR ?_
      replace h := bsome h; obtain ⟨v52, hv52, h⟩ := h
      have hv52 := chkI_some hv52
      refine Chain.runK [] 3 fun K hK => ?_; simp [hv52]; refine hK _ _ ?_; clear hK K
      refine Chain.sub (S' := mk 77 [1000] [(0, .ptr 1000 0 0), (7, .ref 75 0 l18.length), (8, .i v52)] [(75, R3 l18), (1000, some (.box [.ref 25000 0 l16.length, .ref 25001 0 l17.length])), (25000, R29 l16), (25001, R29 l17)]) Sub.tt ?_
      refine Chain.nil ?_
      refine AW.exit ?_
      cases h
      refine thenQ_pass (by simp) ?_
      refine blockQ.hit ?_
      refine PostI.next ?_
      exact Sub.tt
     ·have c51_ : decide ((r50.length : Int) > 0) = false := decide_eq_false c51
      refine AW.condF (b := decide ((r50.length : Int) > 0)) rfl c51_ ?_
      refine AW.sub (Sub.bool 54 (b := decide ((r50.length : Int) > 0)) rfl c51_) ?_
      refine AW.sub (S' := mk 77 [1000] [(0, .ptr 1000 0 0), (7, .ref 75 0 l18.length), (8, .i v19), (9, .ptr 9 0 0), (54, .b false)] [(9, some (.box [.i x48.Tx, .d (.lit (.string x48.Table)), .d (.lit (.string x48.Key)), .i x48.Mode])), (75, R3 l18), (1000, some (.box [.ref 25000 0 l16.length, .ref 25001 0 l17.length])), (25000, R29 l16), (25001, R29 l17)]) (by simp; exact Sub.table (by simp) (by simp)) ?_
      refine AW.skip ?_
      refine thenQ_normal ?_
      refine AW.seqR ?_
      refine Chain.runK [] 2 fun K hK => ?_; simp; refine hK _ _ ?_; clear hK K
      refine Chain.sub (S' := mk 77 [1000] [(0, .ptr 1000 0 0), (7, .ref 75 0 l18.length), (8, .i v19), (9, .ptr 9 0 0), (57, .ptr 1000 0 0), (58, .agg [.i x48.Tx, .d (.lit (.string x48.Table)), .d (.lit (.string x48.Key)), .i x48.Mode])] [(9, some (.box [.i x48.Tx, .d (.lit (.string x48.Table)), .d (.lit (.string x48.Key)), .i x48.Mode])), (75, R3 l18), (1000, some (.box [.ref 25000 0 l16.length, .ref 25001 0 l17.length])), (25000, R29 l16), (25001, R29 l17)]) Sub.tt ?_
      replace h := bsome h; obtain ⟨r53, hr53, h⟩ := h
      refine Chain.callF (p21 N (S48.mk l16 l17) x48 r53 hr53) [(1000, 1000), (25000, 25000), (25001, 25001)] [1000] [(1000, 1000), (25000, 25000), (25001, 25001)] [(1000, (.box [.ref 25000 0 r53.granted.length, .ref 25001 0 r53.queue.length])), (25000, (.arr 29 4 (r53.granted.map cS29))), (25001, (.arr 29 4 (r53.queue.map cS29)))] (.tup []) (by simp) rfl (by simp <;> rfl) (by simp) (by simp) (by simp) (by simp) (by simp) ent21 (by simp) (by simp) (by simp) (by simp) (by simp) (by simp) ?_
      refine Chain.sub (S' := mk 77 [1000] [(0, .ptr 1000 0 0), (7, .ref 75 0 l18.length), (8, .i v19), (9, .ptr 9 0 0), (57, .ptr 1000 0 0), (58, .agg [.i x48.Tx, .d (.lit (.string x48.Table)), .d (.lit (.string x48.Key)), .i x48.Mode]), (59, .tup [])] [(9, some (.box [.i x48.Tx, .d (.lit (.string x48.Table)), .d (.lit (.string x48.Key)), .i x48.Mode])), (75, R3 l18), (1000, some (.box [.ref 25000 0 r53.granted.length, .ref 25001 0 r53.queue.length])), (25000, R29 r53.granted), (25001, R29 r53.queue)]) (by simp; exact Sub.table (by simp) (by simp)) ?_
      refine Chain.nil ?_
      refine AW.seqR ?_
      replace h := bsome h; obtain ⟨v54, hv54, h⟩ := h
      have hv54 := chkI_some hv54
      refine Chain.runK [] 8 fun K hK => ?_; simp [hv54]; refine hK _ _ ?_; clear hK K
      refine Chain.sub (S' := mk 77 [1000] [(0, .ptr 1000 0 0), (7, .ref 75 0 l18.length), (8, .i v19), (9, .ptr 9 0 0), (60, .ptr 1000 0 0), (64, .ref 25001 0 r53.queue.length), (65, .i v19), (67, .i v54)] [(9, some (.box [.i x48.Tx, .d (.lit (.string x48.Table)), .d (.lit (.string x48.Key)), .i x48.Mode])), (75, R3 l18), (1000, some (.box [.ref 25000 0 r53.granted.length, .ref 25001 0 r53.queue.length])), (25000, R29 r53.granted), (25001, R29 r53.queue)]) Sub.tt ?_
      replace h := bsome h; obtain ⟨l55, hl55, h⟩ := h
      refine Chain.callF (p32 N r53.queue v19 v54 l55 hl55) [(25001, 1000)] [] [(1000, 25001)] [(25001, .arr 29 4 (l55.map cS29))] (.ref 25001 0 l55.length) (by simp) rfl (by simp <;> rfl) (by simp) (by simp) (by simp) (by simp) (by simp) ent32 (by simp) (by simp) (by simp) (by simp) (by simp) (by simp) ?_
      refine Chain.sub (S' := mk 77 [1000] [(0, .ptr 1000 0 0), (7, .ref 75 0 l18.length), (8, .i v19), (9, .ptr 9 0 0), (60, .ptr 1000 0 0), (65, .i v19), (67, .i v54), (68, .ref 25001 0 l55.length)] [(9, some (.box [.i x48.Tx, .d (.lit (.string x48.Table)), .d (.lit (.string x48.Key)), .i x48.Mode])), (75, R3 l18), (1000, some (.box [.ref 25000 0 r53.granted.length, .hole])), (25000, R29 r53.granted), (25001, R29 l55)]) (by simp; exact Sub.table (by simp) (by simp)) ?_
      refine Chain.runK [] 3 fun K hK => ?_; simp; refine hK _ _ ?_; clear hK K
      refine Chain.sub (S' := mk 77 [1000] [(0, .ptr 1000 0 0), (7, .ref 75 0 l18.length), (8, .i v19), (9, .ptr 9 0 0)] [(9, some (.box [.i x48.Tx, .d (.lit (.string x48.Table)), .d (.lit (.string x48.Key)), .i x48.Mode])), (75, R3 l18), (1000, some (.box [.ref 25000 0 r53.granted.length, .ref 25001 0 l55.length])), (25000, R29 r53.granted), (25001, R29 l55)]) Sub.tt ?_
      refine Chain.nil ?_
      refine AW.region ?_
      replace h := bsome h; obtain ⟨l56, hl56, h⟩ := h
      obtain ⟨hl56a, hl56⟩ := appL_some hl56
      subst hl56
      try simp only [List.length_cons, List.length_nil, Nat.zero_add] at hl56a
      refine Chain.runK [74] 6 fun K hK => ?_; simp [hl56a]; refine hK _ _ ?_; clear hK K
      refine Chain.sub (S' := mk 77 [1000] [(0, .ptr 1000 0 0), (7, .ref 75 0 ((l18 ++ [x48.Tx]).length)), (8, .i v19)] [(75, R3 (l18 ++ [x48.Tx])), (1000, some (.box [.ref 25000 0 r53.granted.length, .ref 25001 0 l55.length])), (25000, R29 r53.granted), (25001, R29 l55)]) Sub.tt ?_
      refine Chain.nil ?_
      cases h
      refine blockQ.normal ?_
      refine PostI.next ?_
      exact Sub.tt
    ·have c47_ : decide (v19 < (l17.length : Int)) = false := decide_eq_false c47
     refine AW.condF (b := decide (v19 < (l17.length : Int))) rfl c47_ ?_
     refine AW.sub (Sub.bool 41 (b := decide (v19 < (l17.length : Int))) rfl c47_) ?_
     refine AW.sub (S' := mk 77 [1000] [(0, .ptr 1000 0 0), (7, .ref 75 0 l18.length), (8, .i v19), (41, .b false)] [(75, R3 l18), (1000, some (.box [.ref 25000 0 l16.length, .ref 25001 0 l17.length])), (25000, R29 l16), (25001, R29 l17)]) (by simp; exact Sub.table (by simp) (by simp)) ?_
     refine AW.exit ?_
     cases h
     refine thenQ_pass (by simp) ?_
     refine PostI.out (by simp) ?_
     rintro rfl
     refine blockQ.hit ?_
     refine PostN.next ?_
     exact Sub.tt
   ·rintro ⟨l44, l45, l46⟩ h
    dsimp only at h ⊢
    refine thenQ_normal ?_
    refine AW.seqR ?_
    refine Chain.runK [] 3 fun K hK => ?_; simp; refine hK _ _ ?_; clear hK K
    refine Chain.sub (S' := mk 77 [1000] [(4, .ref 75 0 l44.length), (5, .i 0)] [(75, R3 l44), (1000, some (.box [.ref 25000 0 l45.length, .ref 25001 0 l46.length])), (25000, R29 l45), (25001, R29 l46)]) Sub.tt ?_
    refine Chain.nil ?_
    refine AW.sub (Sub.freeze 75 rfl) ?_
    refine AW.sub (S' := mk 77 [1000] [(4, .d (.sl (l44.map (cI .i64)))), (5, .i 0)] [(1000, some (.box [.ref 25000 0 l45.length, .ref 25001 0 l46.length])), (25000, R29 l45), (25001, R29 l46)]) (by simp; exact Sub.table (by simp) (by simp)) ?_
    refine AW.ret ?_
    cases h
    exact FinF.ret (by simp) (by simp)

end Go.Proofs.Ytdiekinmoklonaa
