/- Functions of the program as functional programs; the code computes them. -/
import Derived.Test.YtdiekinmoklonabDoorLx1
namespace Go.Proofs.YtdiekinmoklonabDoor
open Go.Ab Go.Rp
attribute [-simp] List.all_eq_true Array.all_toList Array.all_eq_true

/-- stemma/lexer.quoted -/
def d19 (N : Nat) (a0 : ByteArray) : Option (S29 × Int × Bool) :=
 bindO (β := Unit) (ρ := (S29 × Int × Bool)) (
  iterN (σ := (ByteArray × Int)) (ρ := (Out Unit (S29 × Int × Bool))) (fun ((v24, v25) : (ByteArray × Int)) =>
   if v25 < (a0.size : Int) then (
    (idxB a0 v25).bind fun v75 =>
    if (v75 != 39) then (
     (chkI (v25 + 1)).bind fun v77 =>
     (natI v77 a0.size).bind fun n78 =>
     (natI v25 n78).bind fun n79 =>
     letv (a0.extract n79 n78) fun v80 =>
     (catB v24 v80).bind fun v81 =>
     (chkI ((n79 : Int) + 1)).bind fun v82 =>
     some (.inl (v81, v82))
    ) else
    Option.bind (α := Bool) (
     (chkI (v25 + 1)).bind fun v88 =>
     if v88 < (a0.size : Int) then (
      (chkI (v25 + 1)).bind fun v90 =>
      (idxB a0 v90).bind fun v91 =>
      some (v91 == 39)
     ) else
     some false
    ) fun (v87 : Bool) =>
    if v87 = true then (
     (catB v24 (ByteArray.mk #[39])).bind fun v93 =>
     (chkI (v25 + 1)).bind fun v94 =>
     (chkI (v94 + 1)).bind fun v95 =>
     some (.inl (v93, v95))
    ) else
    (chkI (v25 + 1)).bind fun v96 =>
    some (.inr (.ret ((S29.mk 4 v24 0 0), v96, decide ((v24.size : Int) ≤ 24))))
   ) else
   some (.inr (.go ()))
  ) N ((ByteArray.mk #[]), 1)
 ) fun (_ : Unit) =>
 some ((S29.mk 0 (ByteArray.mk #[]) 0 0), 0, false)
set_option maxRecDepth 100000 in
set_option maxHeartbeats 4000000 in
theorem p19 (N : Nat) (a0 : ByteArray) (r : (S29 × Int × Bool)) (h : d19 N a0 = some r) : FunC Tryd.prog 19 [.d (.lit (.string a0))] (.tup [.agg [.i r.1.Kind, .d (.lit (.string r.1.Text)), .i r.1.Number, .i r.1.Offset], .i r.2.1, .b r.2.2]) := by
 unfold d19 at h
 refine FunC.enter 50 [(0, .d (.lit (.string a0)))] (by simp) Tryd.func19 rfl (of_decide_eq_true rfl) rfl rfl ?_
 refine AW.seqR ?_
 refine Chain.runK [] 3 fun K hK => ?_; simp; refine hK _ _ ?_; clear hK K
 refine Chain.sub (S' := mk 50 [] [(0, .d (.lit (.string a0))), (2, .ptr 2 0 0)] [(2, some (.box [.i 0, .d (.lit (.string (ByteArray.mk #[]))), .i 0, .i 0]))]) Sub.tt ?_
 refine Chain.nil ?_
 refine AW.seqR ?_
 refine Chain.runK [] 1 fun K hK => ?_; simp; refine hK _ _ ?_; clear hK K
 refine Chain.sub (S' := mk 50 [] [(0, .d (.lit (.string a0))), (2, .ptr 2 0 0), (5, .d (.lit (.string (ByteArray.mk #[]))))] [(2, some (.box [.i 0, .d (.lit (.string (ByteArray.mk #[]))), .i 0, .i 0]))]) Sub.tt ?_
 refine Chain.nil ?_
 refine AW.seq ?_
 refine AW.seqR ?_
 refine Chain.runK [] 1 fun K hK => ?_; simp; refine hK _ _ ?_; clear hK K
 refine Chain.sub (S' := mk 50 [] [(0, .d (.lit (.string a0))), (2, .ptr 2 0 0), (5, .d (.lit (.string (ByteArray.mk #[])))), (6, .i 1)] [(2, some (.box [.i 0, .d (.lit (.string (ByteArray.mk #[]))), .i 0, .i 0]))]) Sub.tt ?_
 refine Chain.nil ?_
 refine AW.lastJ (fun (_ : Unit) => mk 50 [] [(2, .ptr 2 0 0)] [(2, some (.box [.i 0, .d (.lit (.string (ByteArray.mk #[]))), .i 0, .i 0]))]) h ?_ ?_ <;> clear h
 ·intro o h
  refine AW.block ?_
  refine AW.iter (fun ((v24, v25) : (ByteArray × Int)) => mk 50 [] [(0, .d (.lit (.string a0))), (2, .ptr 2 0 0), (5, .d (.lit (.string v24))), (6, .i v25)] [(2, some (.box [.i 0, .d (.lit (.string (ByteArray.mk #[]))), .i 0, .i 0]))]) h Sub.tt ?_
  clear h
  rintro ⟨v24, v25⟩ x h
  dsimp only at h ⊢
  refine AW.seq ?_
  refine AW.seqR ?_
  refine Chain.runK [] 4 fun K hK => ?_; simp; refine hK _ _ ?_; clear hK K
  refine Chain.sub (S' := mk 50 [] [(0, .d (.lit (.string a0))), (2, .ptr 2 0 0), (5, .d (.lit (.string v24))), (6, .i v25), (10, .b (decide (v25 < (a0.size : Int))))] [(2, some (.box [.i 0, .d (.lit (.string (ByteArray.mk #[]))), .i 0, .i 0]))]) Sub.tt ?_
  refine Chain.nil ?_
  replace h := isome h; rcases h with ⟨c74, h⟩ | ⟨c74, h⟩
  ·have c74_ : decide (v25 < (a0.size : Int)) = true := decide_eq_true c74
   refine AW.condT (b := decide (v25 < (a0.size : Int))) rfl c74_ ?_
   refine AW.sub (Sub.bool 10 (b := decide (v25 < (a0.size : Int))) rfl c74_) ?_
   refine AW.sub (S' := mk 50 [] [(0, .d (.lit (.string a0))), (2, .ptr 2 0 0), (5, .d (.lit (.string v24))), (6, .i v25), (10, .b true)] [(2, some (.box [.i 0, .d (.lit (.string (ByteArray.mk #[]))), .i 0, .i 0]))]) (by simp; exact Sub.table (by simp) (by simp)) ?_
   refine AW.skip ?_
   refine thenQ_normal ?_
   refine AW.seq ?_
   refine AW.block ?_
   refine AW.block ?_
   refine AW.seqR ?_
   replace h := bsome h; obtain ⟨v75, gv75, h⟩ := h
   obtain ⟨bv75, kv75, hv75k, hv75a, hv75b, hv75c⟩ := idxB_some gv75
   refine Chain.runK [] 5 fun K hK => ?_; simp [hv75k, hv75a, hv75b, hv75c]; refine hK _ _ ?_; clear hK K
   refine Chain.sub (S' := mk 50 [] [(0, .d (.lit (.string a0))), (2, .ptr 2 0 0), (5, .d (.lit (.string v24))), (6, .i v25), (20, .b (v75 != 39))] [(2, some (.box [.i 0, .d (.lit (.string (ByteArray.mk #[]))), .i 0, .i 0]))]) Sub.tt ?_
   refine Chain.nil ?_
   replace h := isome h; rcases h with ⟨c76, h⟩ | ⟨c76, h⟩
   ·have c76_ : (v75 != 39) = true := c76
    refine AW.condT (b := (v75 != 39)) rfl c76_ ?_
    refine AW.sub (Sub.bool 20 (b := (v75 != 39)) rfl c76_) ?_
    refine AW.sub (S' := mk 50 [] [(0, .d (.lit (.string a0))), (2, .ptr 2 0 0), (5, .d (.lit (.string v24))), (6, .i v25), (20, .b true)] [(2, some (.box [.i 0, .d (.lit (.string (ByteArray.mk #[]))), .i 0, .i 0]))]) (by simp; exact Sub.table (by simp) (by simp)) ?_
    refine AW.region ?_
    replace h := bsome h; obtain ⟨v77, hv77, h⟩ := h
    have hv77 := chkI_some hv77
    replace h := bsome h; obtain ⟨n78, gn78, h⟩ := h
    obtain ⟨hn78a, hn78⟩ := natI_some gn78
    clear gn78
    subst hn78a
    replace h := bsome h; obtain ⟨n79, gn79, h⟩ := h
    obtain ⟨hn79a, hn79⟩ := natI_some gn79
    clear gn79
    subst hn79a
    replace h := lsome h; obtain ⟨v80, hv80, h⟩ := h
    replace h := bsome h; obtain ⟨v81, gv81, h⟩ := h
    obtain ⟨hv81a, hv81⟩ := catB_some gv81
    refine Chain.runK [] 8 fun K hK => ?_; simp [hv77, hn78, hn79, hv80, hv81, hv81a]; refine hK _ _ ?_; clear hK K
    refine Chain.sub (S' := mk 50 [] [(0, .d (.lit (.string a0))), (2, .ptr 2 0 0), (5, .d (.lit (.string v81))), (6, .i (n79 : Int))] [(2, some (.box [.i 0, .d (.lit (.string (ByteArray.mk #[]))), .i 0, .i 0]))]) Sub.tt ?_
    refine Chain.nil ?_
    refine blockQ.normal ?_
    refine blockQ.normal ?_
    refine thenQ_normal ?_
    refine AW.region ?_
    replace h := bsome h; obtain ⟨v82, hv82, h⟩ := h
    have hv82 := chkI_some hv82
    refine Chain.runK [] 3 fun K hK => ?_; simp [hv82]; refine hK _ _ ?_; clear hK K
    refine Chain.sub (S' := mk 50 [] [(0, .d (.lit (.string a0))), (2, .ptr 2 0 0), (5, .d (.lit (.string v81))), (6, .i v82)] [(2, some (.box [.i 0, .d (.lit (.string (ByteArray.mk #[]))), .i 0, .i 0]))]) Sub.tt ?_
    refine Chain.nil ?_
    cases h
    refine PostI.next ?_
    exact Sub.tt
   ·have c76_ : (v75 != 39) = false := Bool.eq_false_iff.2 c76
    refine AW.condF (b := (v75 != 39)) rfl c76_ ?_
    refine AW.sub (Sub.bool 20 (b := (v75 != 39)) rfl c76_) ?_
    refine AW.sub (S' := mk 50 [] [(0, .d (.lit (.string a0))), (2, .ptr 2 0 0), (5, .d (.lit (.string v24))), (6, .i v25), (20, .b false)] [(2, some (.box [.i 0, .d (.lit (.string (ByteArray.mk #[]))), .i 0, .i 0]))]) (by simp; exact Sub.table (by simp) (by simp)) ?_
    replace h := bsome h; obtain ⟨v87, hj, h⟩ := h
    refine AW.cutR (mk 50 [] [(0, .d (.lit (.string a0))), (2, .ptr 2 0 0), (5, .d (.lit (.string v24))), (6, .i v25), (32, .b v87)] [(2, some (.box [.i 0, .d (.lit (.string (ByteArray.mk #[]))), .i 0, .i 0]))]) ?_ ?_
    ·clear h; have h := hj; clear hj
     replace h := bsome h; obtain ⟨v88, hv88, h⟩ := h
     have hv88 := chkI_some hv88
     refine Chain.runK [] 6 fun K hK => ?_; simp [hv88]; refine hK _ _ ?_; clear hK K
     refine Chain.sub (S' := mk 50 [] [(0, .d (.lit (.string a0))), (2, .ptr 2 0 0), (5, .d (.lit (.string v24))), (6, .i v25), (38, .b (decide (v88 < (a0.size : Int))))] [(2, some (.box [.i 0, .d (.lit (.string (ByteArray.mk #[]))), .i 0, .i 0]))]) Sub.tt ?_
     replace h := isome h; rcases h with ⟨c89, h⟩ | ⟨c89, h⟩
     ·have c89_ : decide (v88 < (a0.size : Int)) = true := decide_eq_true c89
      refine Chain.sub (Sub.bool 38 (b := decide (v88 < (a0.size : Int))) rfl c89_) ?_
      refine Chain.sub (S' := mk 50 [] [(0, .d (.lit (.string a0))), (2, .ptr 2 0 0), (5, .d (.lit (.string v24))), (6, .i v25), (38, .b true)] [(2, some (.box [.i 0, .d (.lit (.string (ByteArray.mk #[]))), .i 0, .i 0]))]) (by simp; exact Sub.table (by simp) (by simp)) ?_
      replace h := bsome h; obtain ⟨v90, hv90, h⟩ := h
      have hv90 := chkI_some hv90
      replace h := bsome h; obtain ⟨v91, gv91, h⟩ := h
      obtain ⟨bv91, kv91, hv91k, hv91a, hv91b, hv91c⟩ := idxB_some gv91
      refine Chain.runK [] 7 fun K hK => ?_; simp [hv90, hv91k, hv91a, hv91b, hv91c]; refine hK _ _ ?_; clear hK K
      refine Chain.sub (S' := mk 50 [] [(0, .d (.lit (.string a0))), (2, .ptr 2 0 0), (5, .d (.lit (.string v24))), (6, .i v25), (32, .b (v91 == 39)), (39, .d (.lit (.string a0))), (40, .i v25), (41, .i v90), (42, .d (.lit (.int .u8 v91))), (43, .b (v91 == 39))] [(2, some (.box [.i 0, .d (.lit (.string (ByteArray.mk #[]))), .i 0, .i 0]))]) Sub.tt ?_
      cases h
      exact Chain.nil Sub.tt
     ·have c89_ : decide (v88 < (a0.size : Int)) = false := decide_eq_false c89
      refine Chain.sub (Sub.bool 38 (b := decide (v88 < (a0.size : Int))) rfl c89_) ?_
      refine Chain.sub (S' := mk 50 [] [(0, .d (.lit (.string a0))), (2, .ptr 2 0 0), (5, .d (.lit (.string v24))), (6, .i v25), (38, .b false)] [(2, some (.box [.i 0, .d (.lit (.string (ByteArray.mk #[]))), .i 0, .i 0]))]) (by simp; exact Sub.table (by simp) (by simp)) ?_
      refine Chain.runK [] 7 fun K hK => ?_; simp; refine hK _ _ ?_; clear hK K
      refine Chain.sub (S' := mk 50 [] [(0, .d (.lit (.string a0))), (2, .ptr 2 0 0), (5, .d (.lit (.string v24))), (6, .i v25), (32, .b false), (39, .tup []), (40, .tup []), (41, .tup []), (42, .tup []), (43, .tup [])] [(2, some (.box [.i 0, .d (.lit (.string (ByteArray.mk #[]))), .i 0, .i 0]))]) Sub.tt ?_
      cases h
      exact Chain.nil Sub.tt
    ·clear hj
     replace h := isome h; rcases h with ⟨c92, h⟩ | ⟨c92, h⟩
     ·have c92_ : v87 = true := c92
      refine AW.condT (b := v87) rfl c92_ ?_
      refine AW.sub (Sub.bool 32 (b := v87) rfl c92_) ?_
      refine AW.sub (S' := mk 50 [] [(0, .d (.lit (.string a0))), (2, .ptr 2 0 0), (5, .d (.lit (.string v24))), (6, .i v25), (32, .b true)] [(2, some (.box [.i 0, .d (.lit (.string (ByteArray.mk #[]))), .i 0, .i 0]))]) (by simp; exact Sub.table (by simp) (by simp)) ?_
      refine AW.seqR ?_
      replace h := bsome h; obtain ⟨v93, gv93, h⟩ := h
      obtain ⟨hv93a, hv93⟩ := catB_some gv93
      refine Chain.runK [] 3 fun K hK => ?_; simp [hv93, hv93a]; refine hK _ _ ?_; clear hK K
      refine Chain.sub (S' := mk 50 [] [(0, .d (.lit (.string a0))), (2, .ptr 2 0 0), (5, .d (.lit (.string v93))), (6, .i v25)] [(2, some (.box [.i 0, .d (.lit (.string (ByteArray.mk #[]))), .i 0, .i 0]))]) Sub.tt ?_
      refine Chain.nil ?_
      refine AW.region ?_
      replace h := bsome h; obtain ⟨v94, hv94, h⟩ := h
      have hv94 := chkI_some hv94
      refine Chain.runK [] 3 fun K hK => ?_; simp [hv94]; refine hK _ _ ?_; clear hK K
      refine Chain.sub (S' := mk 50 [] [(0, .d (.lit (.string a0))), (2, .ptr 2 0 0), (5, .d (.lit (.string v93))), (6, .i v94)] [(2, some (.box [.i 0, .d (.lit (.string (ByteArray.mk #[]))), .i 0, .i 0]))]) Sub.tt ?_
      refine Chain.nil ?_
      refine blockQ.normal ?_
      refine blockQ.normal ?_
      refine thenQ_normal ?_
      refine AW.region ?_
      replace h := bsome h; obtain ⟨v95, hv95, h⟩ := h
      have hv95 := chkI_some hv95
      refine Chain.runK [] 3 fun K hK => ?_; simp [hv95]; refine hK _ _ ?_; clear hK K
      refine Chain.sub (S' := mk 50 [] [(0, .d (.lit (.string a0))), (2, .ptr 2 0 0), (5, .d (.lit (.string v93))), (6, .i v95)] [(2, some (.box [.i 0, .d (.lit (.string (ByteArray.mk #[]))), .i 0, .i 0]))]) Sub.tt ?_
      refine Chain.nil ?_
      cases h
      refine PostI.next ?_
      exact Sub.tt
     ·have c92_ : v87 = false := Bool.eq_false_iff.2 c92
      refine AW.condF (b := v87) rfl c92_ ?_
      refine AW.sub (Sub.bool 32 (b := v87) rfl c92_) ?_
      refine AW.sub (S' := mk 50 [] [(0, .d (.lit (.string a0))), (2, .ptr 2 0 0), (5, .d (.lit (.string v24))), (6, .i v25), (32, .b false)] [(2, some (.box [.i 0, .d (.lit (.string (ByteArray.mk #[]))), .i 0, .i 0]))]) (by simp; exact Sub.table (by simp) (by simp)) ?_
      refine AW.seqR ?_
      replace h := bsome h; obtain ⟨v96, hv96, h⟩ := h
      have hv96 := chkI_some hv96
      refine Chain.runK [] 10 fun K hK => ?_; simp [hv96]; refine hK _ _ ?_; clear hK K
      refine Chain.sub (S' := mk 50 [] [(2, .ptr 2 0 0), (3, .i v96), (4, .b (decide ((v24.size : Int) ≤ 24)))] [(2, some (.box [.i 4, .d (.lit (.string v24)), .i 0, .i 0]))]) Sub.tt ?_
      refine Chain.nil ?_
      refine AW.ret ?_
      cases h
      refine blockQ.ret ?_
      refine blockQ.ret ?_
      refine thenQ_pass (by simp) ?_
      refine PostI.out (by simp) ?_
      rintro rfl
      refine blockQ.ret ?_
      refine PostJ.out (by simp) ?_
      rintro rfl
      refine thenQ_pass (by simp) ?_
      exact FinC.ret (by simp) (by simp)
  ·have c74_ : decide (v25 < (a0.size : Int)) = false := decide_eq_false c74
   refine AW.condF (b := decide (v25 < (a0.size : Int))) rfl c74_ ?_
   refine AW.sub (Sub.bool 10 (b := decide (v25 < (a0.size : Int))) rfl c74_) ?_
   refine AW.sub (S' := mk 50 [] [(0, .d (.lit (.string a0))), (2, .ptr 2 0 0), (5, .d (.lit (.string v24))), (6, .i v25), (10, .b false)] [(2, some (.box [.i 0, .d (.lit (.string (ByteArray.mk #[]))), .i 0, .i 0]))]) (by simp; exact Sub.table (by simp) (by simp)) ?_
   refine AW.exit ?_
   cases h
   refine thenQ_pass (by simp) ?_
   refine PostI.out (by simp) ?_
   rintro rfl
   refine blockQ.hit ?_
   refine PostJ.next ?_
   exact Sub.tt
 ·rintro ⟨⟩ h
  refine thenQ_normal ?_
  refine AW.seqR ?_
  refine Chain.runK [] 4 fun K hK => ?_; simp; refine hK _ _ ?_; clear hK K
  refine Chain.sub (S' := mk 50 [] [(2, .ptr 2 0 0), (3, .i 0), (4, .b false)] [(2, some (.box [.i 0, .d (.lit (.string (ByteArray.mk #[]))), .i 0, .i 0]))]) Sub.tt ?_
  refine Chain.nil ?_
  refine AW.ret ?_
  cases h
  exact FinC.ret (by simp) (by simp)

/-- internal/stringslite.HasPrefix -/
def d30 (_N : Nat) (a0 : ByteArray) (a1 : ByteArray) : Option Bool :=
 Option.bind (α := Bool) (
  if (a0.size : Int) ≥ (a1.size : Int) then (
   (natI (a1.size : Int) a0.size).bind fun n6 =>
   letv (a0.extract 0 n6) fun v7 =>
   some (decide (v7 = a1))
  ) else
  some false
 ) fun (v4 : Bool) =>
 some v4
set_option maxRecDepth 100000 in
set_option maxHeartbeats 4000000 in
theorem p30 (N : Nat) (a0 : ByteArray) (a1 : ByteArray) (r : Bool) (h : d30 N a0 a1 = some r) : FunC Tryd.prog 30 [.d (.lit (.string a0)), .d (.lit (.string a1))] (.b r) := by
 unfold d30 at h
 refine FunC.enter 18 [(0, .d (.lit (.string a0))), (1, .d (.lit (.string a1)))] (by simp) Tryd.func30 rfl (of_decide_eq_true rfl) rfl rfl ?_
 refine AW.seqR ?_
 refine Chain.runK [] 1 fun K hK => ?_; simp; refine hK _ _ ?_; clear hK K
 refine Chain.sub (S' := mk 18 [] [(0, .d (.lit (.string a0))), (1, .d (.lit (.string a1)))] []) Sub.tt ?_
 refine Chain.nil ?_
 replace h := bsome h; obtain ⟨v4, hj, h⟩ := h
 refine AW.cutR (mk 18 [] [(4, .b v4)] []) ?_ ?_
 ·clear h; have h := hj; clear hj
  refine Chain.runK [] 6 fun K hK => ?_; simp; refine hK _ _ ?_; clear hK K
  refine Chain.sub (S' := mk 18 [] [(0, .d (.lit (.string a0))), (1, .d (.lit (.string a1))), (10, .b (decide ((a0.size : Int) ≥ (a1.size : Int))))] []) Sub.tt ?_
  replace h := isome h; rcases h with ⟨c5, h⟩ | ⟨c5, h⟩
  ·have c5_ : decide ((a0.size : Int) ≥ (a1.size : Int)) = true := decide_eq_true c5
   refine Chain.sub (Sub.bool 10 (b := decide ((a0.size : Int) ≥ (a1.size : Int))) rfl c5_) ?_
   refine Chain.sub (S' := mk 18 [] [(0, .d (.lit (.string a0))), (1, .d (.lit (.string a1))), (10, .b true)] []) (by simp; exact Sub.table (by simp) (by simp)) ?_
   replace h := bsome h; obtain ⟨n6, gn6, h⟩ := h
   obtain ⟨hn6a, hn6⟩ := natI_some gn6
   clear gn6
   replace h := lsome h; obtain ⟨v7, hv7, h⟩ := h
   refine Chain.runK [] 8 fun K hK => ?_; simp [hn6, hn6a, hv7]; refine hK _ _ ?_; clear hK K
   refine Chain.sub (S' := mk 18 [] [(4, .b (decide (v7 = a1)))] []) (Sub.table (by simp) (by simp)) ?_
   cases h
   exact Chain.nil Sub.tt
  ·have c5_ : decide ((a0.size : Int) ≥ (a1.size : Int)) = false := decide_eq_false c5
   refine Chain.sub (Sub.bool 10 (b := decide ((a0.size : Int) ≥ (a1.size : Int))) rfl c5_) ?_
   refine Chain.sub (S' := mk 18 [] [(0, .d (.lit (.string a0))), (1, .d (.lit (.string a1))), (10, .b false)] []) (by simp; exact Sub.table (by simp) (by simp)) ?_
   refine Chain.runK [] 8 fun K hK => ?_; simp; refine hK _ _ ?_; clear hK K
   refine Chain.sub (S' := mk 18 [] [(4, .b false)] []) Sub.tt ?_
   cases h
   exact Chain.nil Sub.tt
 ·clear hj
  refine AW.ret ?_
  cases h
  exact FinC.ret (by simp) (by simp)

/-- strings.HasPrefix -/
def d20 (N : Nat) (a0 : ByteArray) (a1 : ByteArray) : Option Bool :=
 (d30 N a0 a1).bind fun r1 =>
 some r1
set_option maxRecDepth 100000 in
set_option maxHeartbeats 4000000 in
theorem p20 (N : Nat) (a0 : ByteArray) (a1 : ByteArray) (r : Bool) (h : d20 N a0 a1 = some r) : FunC Tryd.prog 20 [.d (.lit (.string a0)), .d (.lit (.string a1))] (.b r) := by
 unfold d20 at h
 refine FunC.enter 8 [(0, .d (.lit (.string a0))), (1, .d (.lit (.string a1)))] (by simp) Tryd.func20 rfl (of_decide_eq_true rfl) rfl rfl ?_
 refine AW.seqR ?_
 refine Chain.runK [] 1 fun K hK => ?_; simp; refine hK _ _ ?_; clear hK K
 refine Chain.sub (S' := mk 8 [] [(0, .d (.lit (.string a0))), (1, .d (.lit (.string a1)))] []) Sub.tt ?_
 refine Chain.nil ?_
 refine AW.seqR ?_
 refine Chain.runK [] 2 fun K hK => ?_; simp; refine hK _ _ ?_; clear hK K
 refine Chain.sub (S' := mk 8 [] [(5, .d (.lit (.string a0))), (6, .d (.lit (.string a1)))] []) Sub.tt ?_
 replace h := bsome h; obtain ⟨r1, hr1, h⟩ := h
 refine Chain.callL (d := 7) (p30 N a0 a1 r1 hr1) (by simp) rfl rfl (by simp <;> rfl) (by simp <;> rfl) ent30 (by simp <;> rfl) ?_
 refine Chain.sub (S' := mk 8 [] [(5, .d (.lit (.string a0))), (6, .d (.lit (.string a1))), (7, .b r1)] []) (by simp; exact Sub.table (by simp) (by simp)) ?_
 refine Chain.runK [] 1 fun K hK => ?_; simp; refine hK _ _ ?_; clear hK K
 refine Chain.sub (S' := mk 8 [] [(4, .b r1)] []) Sub.tt ?_
 refine Chain.nil ?_
 refine AW.ret ?_
 cases h
 exact FinC.ret (by simp) (by simp)

/-- stemma/lexer.one -/
def d11 (N : Nat) (a0 : ByteArray) : Option (S29 × Int × Bool) :=
 (idxB a0 0).bind fun v1 =>
 Option.bind (α := Bool) (
  if v1 ≥ 97 then (
   some (decide (v1 ≤ 122))
  ) else
  some false
 ) fun (v3 : Bool) =>
 if v3 = true then (
  Option.bind (α := Int) (
   iterN (σ := Int) (ρ := Int) (fun (v15 : Int) =>
    Option.bind (α := Bool) (
     if v15 < (a0.size : Int) then (
      (idxB a0 v15).bind fun v41 =>
      (d15 N v41).bind fun r42 =>
      some r42
     ) else
     some false
    ) fun (v39 : Bool) =>
    if v39 = true then (
     (chkI (v15 + 1)).bind fun v44 =>
     some (.inl v44)
    ) else
    some (.inr v15)
   ) N 1
  ) fun (v35 : Int) =>
  (d10 N ).bind fun r45 =>
  (natI v35 a0.size).bind fun n46 =>
  letv (a0.extract 0 n46) fun v47 =>
  (d9 N r45 v47).bind fun r48 =>
  Option.bind (α := Int) (
   if r48 = true then (
    some 2
   ) else
   some 1
  ) fun (v50 : Int) =>
  Option.bind (α := (ByteArray × Bool)) (
   (natI (n46 : Int) a0.size).bind fun _ =>
   letv (a0.extract 0 n46) fun v58 =>
   if (v50 == 2) then (
    some (v58, true)
   ) else
   some (v58, decide ((n46 : Int) ≤ 12))
  ) fun ((v55, v56) : (ByteArray × Bool)) =>
  some ((S29.mk v50 v55 0 0), (n46 : Int), v56)
 ) else
 (d16 N v1).bind fun r60 =>
 if r60 = true then (
  (d17 N a0 0).bind fun r62 =>
  some (r62.1, r62.2.1, r62.2.2)
 ) else
 if (v1 == 63) then (
  (d18 N a0).bind fun r64 =>
  some (r64.1, r64.2.1, r64.2.2)
 ) else
 if (v1 == 39) then (
  (d19 N a0).bind fun r66 =>
  some (r66.1, r66.2.1, r66.2.2)
 ) else
 letv ([(ByteArray.mk #[124, 124]), (ByteArray.mk #[60, 61]), (ByteArray.mk #[40]), (ByteArray.mk #[41]), (ByteArray.mk #[44]), (ByteArray.mk #[124]), (ByteArray.mk #[43]), (ByteArray.mk #[45]), (ByteArray.mk #[42]), (ByteArray.mk #[61]), (ByteArray.mk #[60]), (ByteArray.mk #[36])] : List ByteArray) fun l67 =>
 bindO (β := Unit) (ρ := (S29 × Int × Bool)) (
  iterN (σ := Int) (ρ := (Out Unit (S29 × Int × Bool))) (fun (v73 : Int) =>
   if v73 < (l67.length : Int) then (
    (idx l67 v73).bind fun x88 =>
    (d20 N a0 x88).bind fun r90 =>
    if r90 = true then (
     some (.inr (.ret ((S29.mk 5 x88 0 0), (x88.size : Int), true)))
    ) else
    (chkI (v73 + 1)).bind fun v92 =>
    some (.inl v92)
   ) else
   some (.inr (.go ()))
  ) N 0
 ) fun (_ : Unit) =>
 some ((S29.mk 0 (ByteArray.mk #[]) 0 0), 0, false)
set_option maxRecDepth 100000 in
set_option maxHeartbeats 4000000 in
theorem p11 (N : Nat) (a0 : ByteArray) (r : (S29 × Int × Bool)) (h : d11 N a0 = some r) : FunC Tryd.prog 11 [.d (.lit (.string a0))] (.tup [.agg [.i r.1.Kind, .d (.lit (.string r.1.Text)), .i r.1.Number, .i r.1.Offset], .i r.2.1, .b r.2.2]) := by
 unfold d11 at h
 refine FunC.enter 87 [(0, .d (.lit (.string a0)))] (by simp) Tryd.func11 rfl (of_decide_eq_true rfl) rfl rfl ?_
 refine AW.seqR ?_
 refine Chain.runK [] 3 fun K hK => ?_; simp; refine hK _ _ ?_; clear hK K
 refine Chain.sub (S' := mk 87 [] [(0, .d (.lit (.string a0))), (2, .ptr 2 0 0)] [(2, some (.box [.i 0, .d (.lit (.string (ByteArray.mk #[]))), .i 0, .i 0]))]) Sub.tt ?_
 refine Chain.nil ?_
 refine AW.seq ?_
 refine AW.seqR ?_
 replace h := bsome h; obtain ⟨v1, gv1, h⟩ := h
 obtain ⟨bv1, hv1a, hv1b⟩ := idxB_someN (n := 0) gv1
 refine Chain.runK [] 3 fun K hK => ?_; simp [hv1a, hv1b]; refine hK _ _ ?_; clear hK K
 refine Chain.sub (S' := mk 87 [] [(0, .d (.lit (.string a0))), (2, .ptr 2 0 0), (5, .d (.lit (.int .u8 v1)))] [(2, some (.box [.i 0, .d (.lit (.string (ByteArray.mk #[]))), .i 0, .i 0]))]) Sub.tt ?_
 refine Chain.nil ?_
 refine AW.block ?_
 replace h := bsome h; obtain ⟨v3, hj, h⟩ := h
 refine AW.cutR (mk 87 [] [(0, .d (.lit (.string a0))), (2, .ptr 2 0 0), (5, .d (.lit (.int .u8 v1))), (12, .b v3)] [(2, some (.box [.i 0, .d (.lit (.string (ByteArray.mk #[]))), .i 0, .i 0]))]) ?_ ?_
 ·clear h; have h := hj; clear hj
  refine Chain.runK [] 3 fun K hK => ?_; simp; refine hK _ _ ?_; clear hK K
  refine Chain.sub (S' := mk 87 [] [(0, .d (.lit (.string a0))), (2, .ptr 2 0 0), (5, .d (.lit (.int .u8 v1))), (15, .b (decide (v1 ≥ 97)))] [(2, some (.box [.i 0, .d (.lit (.string (ByteArray.mk #[]))), .i 0, .i 0]))]) Sub.tt ?_
  replace h := isome h; rcases h with ⟨c4, h⟩ | ⟨c4, h⟩
  ·have c4_ : decide (v1 ≥ 97) = true := decide_eq_true c4
   refine Chain.sub (Sub.bool 15 (b := decide (v1 ≥ 97)) rfl c4_) ?_
   refine Chain.sub (S' := mk 87 [] [(0, .d (.lit (.string a0))), (2, .ptr 2 0 0), (5, .d (.lit (.int .u8 v1))), (15, .b true)] [(2, some (.box [.i 0, .d (.lit (.string (ByteArray.mk #[]))), .i 0, .i 0]))]) (by simp; exact Sub.table (by simp) (by simp)) ?_
   refine Chain.runK [] 4 fun K hK => ?_; simp; refine hK _ _ ?_; clear hK K
   refine Chain.sub (S' := mk 87 [] [(0, .d (.lit (.string a0))), (2, .ptr 2 0 0), (5, .d (.lit (.int .u8 v1))), (12, .b (decide (v1 ≤ 122)))] [(2, some (.box [.i 0, .d (.lit (.string (ByteArray.mk #[]))), .i 0, .i 0]))]) Sub.tt ?_
   cases h
   exact Chain.nil Sub.tt
  ·have c4_ : decide (v1 ≥ 97) = false := decide_eq_false c4
   refine Chain.sub (Sub.bool 15 (b := decide (v1 ≥ 97)) rfl c4_) ?_
   refine Chain.sub (S' := mk 87 [] [(0, .d (.lit (.string a0))), (2, .ptr 2 0 0), (5, .d (.lit (.int .u8 v1))), (15, .b false)] [(2, some (.box [.i 0, .d (.lit (.string (ByteArray.mk #[]))), .i 0, .i 0]))]) (by simp; exact Sub.table (by simp) (by simp)) ?_
   refine Chain.runK [] 4 fun K hK => ?_; simp; refine hK _ _ ?_; clear hK K
   refine Chain.sub (S' := mk 87 [] [(0, .d (.lit (.string a0))), (2, .ptr 2 0 0), (5, .d (.lit (.int .u8 v1))), (12, .b false)] [(2, some (.box [.i 0, .d (.lit (.string (ByteArray.mk #[]))), .i 0, .i 0]))]) Sub.tt ?_
   cases h
   exact Chain.nil Sub.tt
 ·clear hj
  replace h := isome h; rcases h with ⟨c5, h⟩ | ⟨c5, h⟩
  ·have c5_ : v3 = true := c5
   refine AW.condT (b := v3) rfl c5_ ?_
   refine AW.sub (Sub.bool 12 (b := v3) rfl c5_) ?_
   refine AW.sub (S' := mk 87 [] [(0, .d (.lit (.string a0))), (2, .ptr 2 0 0), (5, .d (.lit (.int .u8 v1))), (12, .b true)] [(2, some (.box [.i 0, .d (.lit (.string (ByteArray.mk #[]))), .i 0, .i 0]))]) (by simp; exact Sub.table (by simp) (by simp)) ?_
   refine AW.seqR ?_
   refine Chain.runK [] 1 fun K hK => ?_; simp; refine hK _ _ ?_; clear hK K
   refine Chain.sub (S' := mk 87 [] [(0, .d (.lit (.string a0))), (2, .ptr 2 0 0), (6, .i 1)] [(2, some (.box [.i 0, .d (.lit (.string (ByteArray.mk #[]))), .i 0, .i 0]))]) Sub.tt ?_
   refine Chain.nil ?_
   refine AW.seqN (fun (v35 : Int) => mk 87 [] [(0, .d (.lit (.string a0))), (2, .ptr 2 0 0), (6, .i v35)] [(2, some (.box [.i 0, .d (.lit (.string (ByteArray.mk #[]))), .i 0, .i 0]))]) h ?_ ?_ <;> clear h
   ·intro o h
    refine AW.block ?_
    refine AW.iter (fun (v15 : Int) => mk 87 [] [(0, .d (.lit (.string a0))), (2, .ptr 2 0 0), (6, .i v15)] [(2, some (.box [.i 0, .d (.lit (.string (ByteArray.mk #[]))), .i 0, .i 0]))]) h Sub.tt ?_
    clear h
    rintro v15 x h
    refine AW.seq ?_
    replace h := bsome h; obtain ⟨v39, hj, h⟩ := h
    refine AW.cutR (mk 87 [] [(0, .d (.lit (.string a0))), (2, .ptr 2 0 0), (6, .i v15), (28, .b v39)] [(2, some (.box [.i 0, .d (.lit (.string (ByteArray.mk #[]))), .i 0, .i 0]))]) ?_ ?_
    ·clear h; have h := hj; clear hj
     refine Chain.runK [] 5 fun K hK => ?_; simp; refine hK _ _ ?_; clear hK K
     refine Chain.sub (S' := mk 87 [] [(0, .d (.lit (.string a0))), (2, .ptr 2 0 0), (6, .i v15), (23, .b (decide (v15 < (a0.size : Int))))] [(2, some (.box [.i 0, .d (.lit (.string (ByteArray.mk #[]))), .i 0, .i 0]))]) Sub.tt ?_
     replace h := isome h; rcases h with ⟨c40, h⟩ | ⟨c40, h⟩
     ·have c40_ : decide (v15 < (a0.size : Int)) = true := decide_eq_true c40
      refine Chain.sub (Sub.bool 23 (b := decide (v15 < (a0.size : Int))) rfl c40_) ?_
      refine Chain.sub (S' := mk 87 [] [(0, .d (.lit (.string a0))), (2, .ptr 2 0 0), (6, .i v15), (23, .b true)] [(2, some (.box [.i 0, .d (.lit (.string (ByteArray.mk #[]))), .i 0, .i 0]))]) (by simp; exact Sub.table (by simp) (by simp)) ?_
      replace h := bsome h; obtain ⟨v41, gv41, h⟩ := h
      obtain ⟨bv41, kv41, hv41k, hv41a, hv41b, hv41c⟩ := idxB_some gv41
      refine Chain.runK [] 3 fun K hK => ?_; simp [hv41k, hv41a, hv41b, hv41c]; refine hK _ _ ?_; clear hK K
      refine Chain.sub (S' := mk 87 [] [(0, .d (.lit (.string a0))), (2, .ptr 2 0 0), (6, .i v15), (23, .b true), (24, .d (.lit (.string a0))), (25, .i v15), (26, .d (.lit (.int .u8 v41)))] [(2, some (.box [.i 0, .d (.lit (.string (ByteArray.mk #[]))), .i 0, .i 0]))]) Sub.tt ?_
      replace h := bsome h; obtain ⟨r42, hr42, h⟩ := h
      refine Chain.callL (d := 27) (p15 N v41 r42 hr42) (by simp) rfl rfl (by simp <;> rfl) (by simp <;> rfl) ent15 (by simp <;> rfl) ?_
      refine Chain.sub (S' := mk 87 [] [(0, .d (.lit (.string a0))), (2, .ptr 2 0 0), (6, .i v15), (23, .b true), (24, .d (.lit (.string a0))), (25, .i v15), (26, .d (.lit (.int .u8 v41))), (27, .b r42)] [(2, some (.box [.i 0, .d (.lit (.string (ByteArray.mk #[]))), .i 0, .i 0]))]) (by simp; exact Sub.table (by simp) (by simp)) ?_
      refine Chain.runK [] 1 fun K hK => ?_; simp; refine hK _ _ ?_; clear hK K
      refine Chain.sub (S' := mk 87 [] [(0, .d (.lit (.string a0))), (2, .ptr 2 0 0), (6, .i v15), (24, .d (.lit (.string a0))), (25, .i v15), (26, .d (.lit (.int .u8 v41))), (27, .b r42), (28, .b r42)] [(2, some (.box [.i 0, .d (.lit (.string (ByteArray.mk #[]))), .i 0, .i 0]))]) Sub.tt ?_
      cases h
      exact Chain.nil Sub.tt
     ·have c40_ : decide (v15 < (a0.size : Int)) = false := decide_eq_false c40
      refine Chain.sub (Sub.bool 23 (b := decide (v15 < (a0.size : Int))) rfl c40_) ?_
      refine Chain.sub (S' := mk 87 [] [(0, .d (.lit (.string a0))), (2, .ptr 2 0 0), (6, .i v15), (23, .b false)] [(2, some (.box [.i 0, .d (.lit (.string (ByteArray.mk #[]))), .i 0, .i 0]))]) (by simp; exact Sub.table (by simp) (by simp)) ?_
      refine Chain.runK [] 5 fun K hK => ?_; simp; refine hK _ _ ?_; clear hK K
      refine Chain.sub (S' := mk 87 [] [(0, .d (.lit (.string a0))), (2, .ptr 2 0 0), (6, .i v15), (24, .tup []), (25, .tup []), (26, .tup []), (27, .tup []), (28, .b false)] [(2, some (.box [.i 0, .d (.lit (.string (ByteArray.mk #[]))), .i 0, .i 0]))]) Sub.tt ?_
      cases h
      exact Chain.nil Sub.tt
    ·clear hj
     replace h := isome h; rcases h with ⟨c43, h⟩ | ⟨c43, h⟩
     ·have c43_ : v39 = true := c43
      refine AW.condT (b := v39) rfl c43_ ?_
      refine AW.sub (Sub.bool 28 (b := v39) rfl c43_) ?_
      refine AW.sub (S' := mk 87 [] [(0, .d (.lit (.string a0))), (2, .ptr 2 0 0), (6, .i v15), (28, .b true)] [(2, some (.box [.i 0, .d (.lit (.string (ByteArray.mk #[]))), .i 0, .i 0]))]) (by simp; exact Sub.table (by simp) (by simp)) ?_
      refine AW.skip ?_
      refine thenQ_normal ?_
      refine AW.block ?_
      refine AW.region ?_
      replace h := bsome h; obtain ⟨v44, hv44, h⟩ := h
      have hv44 := chkI_some hv44
      refine Chain.runK [] 3 fun K hK => ?_; simp [hv44]; refine hK _ _ ?_; clear hK K
      refine Chain.sub (S' := mk 87 [] [(0, .d (.lit (.string a0))), (2, .ptr 2 0 0), (6, .i v44)] [(2, some (.box [.i 0, .d (.lit (.string (ByteArray.mk #[]))), .i 0, .i 0]))]) Sub.tt ?_
      refine Chain.nil ?_
      cases h
      refine blockQ.normal ?_
      refine PostI.next ?_
      exact Sub.tt
     ·have c43_ : v39 = false := Bool.eq_false_iff.2 c43
      refine AW.condF (b := v39) rfl c43_ ?_
      refine AW.sub (Sub.bool 28 (b := v39) rfl c43_) ?_
      refine AW.sub (S' := mk 87 [] [(0, .d (.lit (.string a0))), (2, .ptr 2 0 0), (6, .i v15), (28, .b false)] [(2, some (.box [.i 0, .d (.lit (.string (ByteArray.mk #[]))), .i 0, .i 0]))]) (by simp; exact Sub.table (by simp) (by simp)) ?_
      refine AW.exit ?_
      cases h
      refine thenQ_pass (by simp) ?_
      refine PostI.out (by simp) ?_
      rintro rfl
      refine blockQ.hit ?_
      refine PostN.next ?_
      exact Sub.tt
   ·rintro v35 h
    refine AW.seqR ?_
    refine Chain.runK [] 1 fun K hK => ?_; simp; refine hK _ _ ?_; clear hK K
    refine Chain.sub (S' := mk 87 [] [(0, .d (.lit (.string a0))), (2, .ptr 2 0 0), (6, .i v35), (7, .i 1)] [(2, some (.box [.i 0, .d (.lit (.string (ByteArray.mk #[]))), .i 0, .i 0]))]) Sub.tt ?_
    refine Chain.nil ?_
    refine AW.seq ?_
    replace h := bsome h; obtain ⟨r45, hr45, h⟩ := h
    replace h := bsome h; obtain ⟨n46, gn46, h⟩ := h
    obtain ⟨hn46a, hn46⟩ := natI_some gn46
    clear gn46
    subst hn46a
    replace h := lsome h; obtain ⟨v47, hv47, h⟩ := h
    replace h := bsome h; obtain ⟨r48, hr48, h⟩ := h
    refine AW.seqAnyS [[], [], [], [1, 2], [0, 1, 2, 3]] (fun (b : Nat → Bool) => mk 87 [] [(0, .d (.lit (.string a0))), (2, .ptr 2 0 0), (6, .i (n46 : Int)), (7, .i 1), (31, (if b 0 then .d (.sl (r45.map cS)) else .junk)), (32, (if b 1 then .d (.lit (.string a0)) else .junk)), (33, (if b 2 then .i (n46 : Int) else .junk)), (34, (if b 3 then .d (.lit (.string v47)) else .junk)), (35, (if b 4 then .b r48 else .junk))] [(2, some (.box [.i 0, .d (.lit (.string (ByteArray.mk #[]))), .i 0, .i 0]))]) (mk 87 [] [(0, .d (.lit (.string a0))), (2, .ptr 2 0 0), (6, .i (n46 : Int)), (7, .i 1), (35, .b r48)] [(2, some (.box [.i 0, .d (.lit (.string (ByteArray.mk #[]))), .i 0, .i 0]))]) (by kernel_rfl) (by kernel_rfl) Sub.tt (Steps.cons ?_ (Steps.cons ?_ (Steps.cons ?_ (Steps.cons ?_ (Steps.cons ?_ (Steps.nil)))))) ?_ ?_
    ·intro b h0 ha hd
     have f4 : b 4 = false := hd 4 (by decide)
     simp only [h0, f4, if_false, Bool.false_eq_true]
     refine Chain.callC (d := 31) (p10 N  r45 hr45) (by simp) rfl rfl (by simp <;> rfl) (by simp <;> rfl) ent10 (by simp) (.inl ⟨by simp, by simp⟩) ?_
     exact Chain.nil (by simp [f4]; exact Sub.table (by simp) (by simp))
    ·intro b h0 ha hd
     have f3 : b 3 = false := hd 3 (by decide)
     have f4 : b 4 = false := hd 4 (by decide)
     refine Chain.runK [] 1 fun K hK => ?_; simp [h0, f3, f4]; refine hK _ _ ?_; clear hK K
     exact Chain.nil (Sub.table (by simp [f3, f4]) (by simp))
    ·intro b h0 ha hd
     have f3 : b 3 = false := hd 3 (by decide)
     have f4 : b 4 = false := hd 4 (by decide)
     refine Chain.runK [] 1 fun K hK => ?_; simp [h0, f3, f4]; refine hK _ _ ?_; clear hK K
     exact Chain.nil (Sub.table (by simp [f3, f4]) (by simp))
    ·intro b h0 ha hd
     have t1 : b 1 = true := ha 1 (by decide)
     have t2 : b 2 = true := ha 2 (by decide)
     have f4 : b 4 = false := hd 4 (by decide)
     refine Chain.runK [] 1 fun K hK => ?_; simp [h0, t1, t2, f4, hn46, hv47]; refine hK _ _ ?_; clear hK K
     exact Chain.nil (Sub.table (by simp [t1, t2, f4]) (by simp))
    ·intro b h0 ha hd
     have t0 : b 0 = true := ha 0 (by decide)
     have t1 : b 1 = true := ha 1 (by decide)
     have t2 : b 2 = true := ha 2 (by decide)
     have t3 : b 3 = true := ha 3 (by decide)
     simp only [h0, t0, t1, t2, t3, if_true, if_false, Bool.false_eq_true]
     refine Chain.callL (d := 35) (p9 N r45 v47 r48 hr48) (by simp) rfl rfl (by simp <;> rfl) (by simp <;> rfl) ent9 (by simp <;> rfl) ?_
     exact Chain.nil (by simp [t0, t1, t2, t3]; exact Sub.table (by simp) (by simp))
    ·intro b hb
     have t0 := hb 0 (by decide)
     have t1 := hb 1 (by decide)
     have t2 := hb 2 (by decide)
     have t3 := hb 3 (by decide)
     have t4 := hb 4 (by decide)
     exact Sub.table (by simp [t0, t1, t2, t3, t4]) (by simp)
    ·skip
     refine AW.lastN (fun (v50 : Int) => mk 87 [] [(0, .d (.lit (.string a0))), (2, .ptr 2 0 0), (6, .i (n46 : Int)), (7, .i v50)] [(2, some (.box [.i 0, .d (.lit (.string (ByteArray.mk #[]))), .i 0, .i 0]))]) h ?_ ?_ <;> clear h
     ·intro o h
      replace h := isome h; rcases h with ⟨c51, h⟩ | ⟨c51, h⟩
      ·have c51_ : r48 = true := c51
       refine AW.condT (b := r48) rfl c51_ ?_
       refine AW.sub (Sub.bool 35 (b := r48) rfl c51_) ?_
       refine AW.sub (S' := mk 87 [] [(0, .d (.lit (.string a0))), (2, .ptr 2 0 0), (6, .i (n46 : Int)), (7, .i 1), (35, .b true)] [(2, some (.box [.i 0, .d (.lit (.string (ByteArray.mk #[]))), .i 0, .i 0]))]) (by simp; exact Sub.table (by simp) (by simp)) ?_
       refine AW.region ?_
       refine Chain.runK [] 1 fun K hK => ?_; simp; refine hK _ _ ?_; clear hK K
       refine Chain.sub (S' := mk 87 [] [(0, .d (.lit (.string a0))), (2, .ptr 2 0 0), (6, .i (n46 : Int)), (7, .i 2)] [(2, some (.box [.i 0, .d (.lit (.string (ByteArray.mk #[]))), .i 0, .i 0]))]) Sub.tt ?_
       refine Chain.nil ?_
       cases h
       refine PostN.next ?_
       exact Sub.tt
      ·have c51_ : r48 = false := Bool.eq_false_iff.2 c51
       refine AW.condF (b := r48) rfl c51_ ?_
       refine AW.sub (Sub.bool 35 (b := r48) rfl c51_) ?_
       refine AW.sub (S' := mk 87 [] [(0, .d (.lit (.string a0))), (2, .ptr 2 0 0), (6, .i (n46 : Int)), (7, .i 1), (35, .b false)] [(2, some (.box [.i 0, .d (.lit (.string (ByteArray.mk #[]))), .i 0, .i 0]))]) (by simp; exact Sub.table (by simp) (by simp)) ?_
       refine AW.skip ?_
       cases h
       refine PostN.next ?_
       exact Sub.tt
     ·rintro v50 h
      refine thenQ_normal ?_
      replace h := bsome h; obtain ⟨⟨v55, v56⟩, hj, h⟩ := h
      dsimp only at h
      refine AW.cutR (mk 87 [] [(2, .ptr 2 0 0), (3, .i (n46 : Int)), (4, .b v56)] [(2, some (.box [.i v50, .d (.lit (.string v55)), .i 0, .i 0]))]) ?_ ?_
      ·clear h; have h := hj; clear hj
       replace h := bsome h; obtain ⟨n57, gn57, h⟩ := h
       obtain ⟨hn57a, hn57⟩ := natI_some gn57
       have hn57b : (n46 : Int) ≤ ((a0.size : Nat) : Int) := by omega
       replace hn57 : n46 ≤ a0.size := by omega
       clear gn57 hn57a
       replace h := lsome h; obtain ⟨v58, hv58, h⟩ := h
       refine Chain.runK [] 9 fun K hK => ?_; simp [hn57, hv58]; refine hK _ _ ?_; clear hK K
       refine Chain.sub (S' := mk 87 [] [(2, .ptr 2 0 0), (6, .i (n46 : Int)), (40, .agg [.i v50, .d (.lit (.string v58)), .i 0, .i 0]), (41, .i (n46 : Int)), (44, .b (v50 == 2))] [(2, some (.box [.i 0, .d (.lit (.string (ByteArray.mk #[]))), .i 0, .i 0]))]) Sub.tt ?_
       replace h := isome h; rcases h with ⟨c59, h⟩ | ⟨c59, h⟩
       ·have c59_ : (v50 == 2) = true := c59
        refine Chain.sub (Sub.bool 44 (b := (v50 == 2)) rfl c59_) ?_
        refine Chain.sub (S' := mk 87 [] [(2, .ptr 2 0 0), (6, .i (n46 : Int)), (40, .agg [.i v50, .d (.lit (.string v58)), .i 0, .i 0]), (41, .i (n46 : Int)), (44, .b true)] [(2, some (.box [.i 0, .d (.lit (.string (ByteArray.mk #[]))), .i 0, .i 0]))]) (by simp; exact Sub.table (by simp) (by simp)) ?_
        refine Chain.runK [] 6 fun K hK => ?_; simp; refine hK _ _ ?_; clear hK K
        refine Chain.sub (S' := mk 87 [] [(2, .ptr 2 0 0), (3, .i (n46 : Int)), (4, .b true)] [(2, some (.box [.i v50, .d (.lit (.string v58)), .i 0, .i 0]))]) Sub.tt ?_
        cases h
        exact Chain.nil Sub.tt
       ·have c59_ : (v50 == 2) = false := Bool.eq_false_iff.2 c59
        refine Chain.sub (Sub.bool 44 (b := (v50 == 2)) rfl c59_) ?_
        refine Chain.sub (S' := mk 87 [] [(2, .ptr 2 0 0), (6, .i (n46 : Int)), (40, .agg [.i v50, .d (.lit (.string v58)), .i 0, .i 0]), (41, .i (n46 : Int)), (44, .b false)] [(2, some (.box [.i 0, .d (.lit (.string (ByteArray.mk #[]))), .i 0, .i 0]))]) (by simp; exact Sub.table (by simp) (by simp)) ?_
        refine Chain.runK [] 6 fun K hK => ?_; simp; refine hK _ _ ?_; clear hK K
        refine Chain.sub (S' := mk 87 [] [(2, .ptr 2 0 0), (3, .i (n46 : Int)), (4, .b (decide ((n46 : Int) ≤ 12)))] [(2, some (.box [.i v50, .d (.lit (.string v58)), .i 0, .i 0]))]) Sub.tt ?_
        cases h
        exact Chain.nil Sub.tt
      ·clear hj
       refine AW.ret ?_
       cases h
       refine blockQ.ret ?_
       refine thenQ_pass (by simp) ?_
       exact FinC.ret (by simp) (by simp)
  ·have c5_ : v3 = false := Bool.eq_false_iff.2 c5
   refine AW.condF (b := v3) rfl c5_ ?_
   refine AW.sub (Sub.bool 12 (b := v3) rfl c5_) ?_
   refine AW.sub (S' := mk 87 [] [(0, .d (.lit (.string a0))), (2, .ptr 2 0 0), (5, .d (.lit (.int .u8 v1))), (12, .b false)] [(2, some (.box [.i 0, .d (.lit (.string (ByteArray.mk #[]))), .i 0, .i 0]))]) (by simp; exact Sub.table (by simp) (by simp)) ?_
   refine AW.seqR ?_
   refine Chain.runK [] 1 fun K hK => ?_; simp; refine hK _ _ ?_; clear hK K
   refine Chain.sub (S' := mk 87 [] [(0, .d (.lit (.string a0))), (2, .ptr 2 0 0), (5, .d (.lit (.int .u8 v1))), (49, .d (.lit (.int .u8 v1)))] [(2, some (.box [.i 0, .d (.lit (.string (ByteArray.mk #[]))), .i 0, .i 0]))]) Sub.tt ?_
   replace h := bsome h; obtain ⟨r60, hr60, h⟩ := h
   refine Chain.callL (d := 50) (p16 N v1 r60 hr60) (by simp) rfl rfl (by simp <;> rfl) (by simp <;> rfl) ent16 (by simp <;> rfl) ?_
   refine Chain.sub (S' := mk 87 [] [(0, .d (.lit (.string a0))), (2, .ptr 2 0 0), (5, .d (.lit (.int .u8 v1))), (49, .d (.lit (.int .u8 v1))), (50, .b r60)] [(2, some (.box [.i 0, .d (.lit (.string (ByteArray.mk #[]))), .i 0, .i 0]))]) (by simp; exact Sub.table (by simp) (by simp)) ?_
   refine Chain.runK [] 1 fun K hK => ?_; simp; refine hK _ _ ?_; clear hK K
   refine Chain.sub (S' := mk 87 [] [(0, .d (.lit (.string a0))), (2, .ptr 2 0 0), (5, .d (.lit (.int .u8 v1))), (48, .b r60)] [(2, some (.box [.i 0, .d (.lit (.string (ByteArray.mk #[]))), .i 0, .i 0]))]) Sub.tt ?_
   refine Chain.nil ?_
   replace h := isome h; rcases h with ⟨c61, h⟩ | ⟨c61, h⟩
   ·have c61_ : r60 = true := c61
    refine AW.condT (b := r60) rfl c61_ ?_
    refine AW.sub (Sub.bool 48 (b := r60) rfl c61_) ?_
    refine AW.sub (S' := mk 87 [] [(0, .d (.lit (.string a0))), (2, .ptr 2 0 0), (5, .d (.lit (.int .u8 v1))), (48, .b true)] [(2, some (.box [.i 0, .d (.lit (.string (ByteArray.mk #[]))), .i 0, .i 0]))]) (by simp; exact Sub.table (by simp) (by simp)) ?_
    refine AW.seqR ?_
    refine Chain.runK [] 1 fun K hK => ?_; simp; refine hK _ _ ?_; clear hK K
    refine Chain.sub (S' := mk 87 [] [(2, .ptr 2 0 0), (51, .d (.lit (.string a0)))] [(2, some (.box [.i 0, .d (.lit (.string (ByteArray.mk #[]))), .i 0, .i 0]))]) Sub.tt ?_
    replace h := bsome h; obtain ⟨r62, hr62, h⟩ := h
    refine Chain.callC (d := 52) (p17 N a0 0 r62 hr62) (by simp) rfl rfl (by simp <;> rfl) (by simp <;> rfl) ent17 (by simp) (.inl ⟨by simp, by simp⟩) ?_
    refine Chain.sub (S' := mk 87 [] [(2, .ptr 2 0 0), (51, .d (.lit (.string a0))), (52, .tup [.agg [.i r62.1.Kind, .d (.lit (.string r62.1.Text)), .i r62.1.Number, .i r62.1.Offset], .i r62.2.1, .b r62.2.2])] [(2, some (.box [.i 0, .d (.lit (.string (ByteArray.mk #[]))), .i 0, .i 0]))]) (by simp; exact Sub.table (by simp) (by simp)) ?_
    refine Chain.runK [] 6 fun K hK => ?_; simp; refine hK _ _ ?_; clear hK K
    refine Chain.sub (S' := mk 87 [] [(2, .ptr 2 0 0), (3, .i r62.2.1), (4, .b r62.2.2)] [(2, some (.box [.i r62.1.Kind, .d (.lit (.string r62.1.Text)), .i r62.1.Number, .i r62.1.Offset]))]) Sub.tt ?_
    refine Chain.nil ?_
    refine AW.ret ?_
    cases h
    refine blockQ.ret ?_
    refine thenQ_pass (by simp) ?_
    exact FinC.ret (by simp) (by simp)
   ·have c61_ : r60 = false := Bool.eq_false_iff.2 c61
    refine AW.condF (b := r60) rfl c61_ ?_
    refine AW.sub (Sub.bool 48 (b := r60) rfl c61_) ?_
    refine AW.sub (S' := mk 87 [] [(0, .d (.lit (.string a0))), (2, .ptr 2 0 0), (5, .d (.lit (.int .u8 v1))), (48, .b false)] [(2, some (.box [.i 0, .d (.lit (.string (ByteArray.mk #[]))), .i 0, .i 0]))]) (by simp; exact Sub.table (by simp) (by simp)) ?_
    refine AW.seqR ?_
    refine Chain.runK [] 3 fun K hK => ?_; simp; refine hK _ _ ?_; clear hK K
    refine Chain.sub (S' := mk 87 [] [(0, .d (.lit (.string a0))), (2, .ptr 2 0 0), (5, .d (.lit (.int .u8 v1))), (56, .b (v1 == 63))] [(2, some (.box [.i 0, .d (.lit (.string (ByteArray.mk #[]))), .i 0, .i 0]))]) Sub.tt ?_
    refine Chain.nil ?_
    replace h := isome h; rcases h with ⟨c63, h⟩ | ⟨c63, h⟩
    ·have c63_ : (v1 == 63) = true := c63
     refine AW.condT (b := (v1 == 63)) rfl c63_ ?_
     refine AW.sub (Sub.bool 56 (b := (v1 == 63)) rfl c63_) ?_
     refine AW.sub (S' := mk 87 [] [(0, .d (.lit (.string a0))), (2, .ptr 2 0 0), (5, .d (.lit (.int .u8 v1))), (56, .b true)] [(2, some (.box [.i 0, .d (.lit (.string (ByteArray.mk #[]))), .i 0, .i 0]))]) (by simp; exact Sub.table (by simp) (by simp)) ?_
     refine AW.seqR ?_
     refine Chain.runK [] 1 fun K hK => ?_; simp; refine hK _ _ ?_; clear hK K
     refine Chain.sub (S' := mk 87 [] [(2, .ptr 2 0 0), (59, .d (.lit (.string a0)))] [(2, some (.box [.i 0, .d (.lit (.string (ByteArray.mk #[]))), .i 0, .i 0]))]) Sub.tt ?_
     replace h := bsome h; obtain ⟨r64, hr64, h⟩ := h
     refine Chain.callC (d := 60) (p18 N a0 r64 hr64) (by simp) rfl rfl (by simp <;> rfl) (by simp <;> rfl) ent18 (by simp) (.inl ⟨by simp, by simp⟩) ?_
     refine Chain.sub (S' := mk 87 [] [(2, .ptr 2 0 0), (59, .d (.lit (.string a0))), (60, .tup [.agg [.i r64.1.Kind, .d (.lit (.string r64.1.Text)), .i r64.1.Number, .i r64.1.Offset], .i r64.2.1, .b r64.2.2])] [(2, some (.box [.i 0, .d (.lit (.string (ByteArray.mk #[]))), .i 0, .i 0]))]) (by simp; exact Sub.table (by simp) (by simp)) ?_
     refine Chain.runK [] 6 fun K hK => ?_; simp; refine hK _ _ ?_; clear hK K
     refine Chain.sub (S' := mk 87 [] [(2, .ptr 2 0 0), (3, .i r64.2.1), (4, .b r64.2.2)] [(2, some (.box [.i r64.1.Kind, .d (.lit (.string r64.1.Text)), .i r64.1.Number, .i r64.1.Offset]))]) Sub.tt ?_
     refine Chain.nil ?_
     refine AW.ret ?_
     cases h
     refine blockQ.ret ?_
     refine thenQ_pass (by simp) ?_
     exact FinC.ret (by simp) (by simp)
    ·have c63_ : (v1 == 63) = false := Bool.eq_false_iff.2 c63
     refine AW.condF (b := (v1 == 63)) rfl c63_ ?_
     refine AW.sub (Sub.bool 56 (b := (v1 == 63)) rfl c63_) ?_
     refine AW.sub (S' := mk 87 [] [(0, .d (.lit (.string a0))), (2, .ptr 2 0 0), (5, .d (.lit (.int .u8 v1))), (56, .b false)] [(2, some (.box [.i 0, .d (.lit (.string (ByteArray.mk #[]))), .i 0, .i 0]))]) (by simp; exact Sub.table (by simp) (by simp)) ?_
     refine AW.seqR ?_
     refine Chain.runK [] 3 fun K hK => ?_; simp; refine hK _ _ ?_; clear hK K
     refine Chain.sub (S' := mk 87 [] [(0, .d (.lit (.string a0))), (2, .ptr 2 0 0), (64, .b (v1 == 39))] [(2, some (.box [.i 0, .d (.lit (.string (ByteArray.mk #[]))), .i 0, .i 0]))]) Sub.tt ?_
     refine Chain.nil ?_
     replace h := isome h; rcases h with ⟨c65, h⟩ | ⟨c65, h⟩
     ·have c65_ : (v1 == 39) = true := c65
      refine AW.condT (b := (v1 == 39)) rfl c65_ ?_
      refine AW.sub (Sub.bool 64 (b := (v1 == 39)) rfl c65_) ?_
      refine AW.sub (S' := mk 87 [] [(0, .d (.lit (.string a0))), (2, .ptr 2 0 0), (64, .b true)] [(2, some (.box [.i 0, .d (.lit (.string (ByteArray.mk #[]))), .i 0, .i 0]))]) (by simp; exact Sub.table (by simp) (by simp)) ?_
      refine AW.seqR ?_
      refine Chain.runK [] 1 fun K hK => ?_; simp; refine hK _ _ ?_; clear hK K
      refine Chain.sub (S' := mk 87 [] [(2, .ptr 2 0 0), (67, .d (.lit (.string a0)))] [(2, some (.box [.i 0, .d (.lit (.string (ByteArray.mk #[]))), .i 0, .i 0]))]) Sub.tt ?_
      replace h := bsome h; obtain ⟨r66, hr66, h⟩ := h
      refine Chain.callC (d := 68) (p19 N a0 r66 hr66) (by simp) rfl rfl (by simp <;> rfl) (by simp <;> rfl) ent19 (by simp) (.inl ⟨by simp, by simp⟩) ?_
      refine Chain.sub (S' := mk 87 [] [(2, .ptr 2 0 0), (67, .d (.lit (.string a0))), (68, .tup [.agg [.i r66.1.Kind, .d (.lit (.string r66.1.Text)), .i r66.1.Number, .i r66.1.Offset], .i r66.2.1, .b r66.2.2])] [(2, some (.box [.i 0, .d (.lit (.string (ByteArray.mk #[]))), .i 0, .i 0]))]) (by simp; exact Sub.table (by simp) (by simp)) ?_
      refine Chain.runK [] 6 fun K hK => ?_; simp; refine hK _ _ ?_; clear hK K
      refine Chain.sub (S' := mk 87 [] [(2, .ptr 2 0 0), (3, .i r66.2.1), (4, .b r66.2.2)] [(2, some (.box [.i r66.1.Kind, .d (.lit (.string r66.1.Text)), .i r66.1.Number, .i r66.1.Offset]))]) Sub.tt ?_
      refine Chain.nil ?_
      refine AW.ret ?_
      cases h
      refine blockQ.ret ?_
      refine thenQ_pass (by simp) ?_
      exact FinC.ret (by simp) (by simp)
     ·have c65_ : (v1 == 39) = false := Bool.eq_false_iff.2 c65
      refine AW.condF (b := (v1 == 39)) rfl c65_ ?_
      refine AW.sub (Sub.bool 64 (b := (v1 == 39)) rfl c65_) ?_
      refine AW.sub (S' := mk 87 [] [(0, .d (.lit (.string a0))), (2, .ptr 2 0 0), (64, .b false)] [(2, some (.box [.i 0, .d (.lit (.string (ByteArray.mk #[]))), .i 0, .i 0]))]) (by simp; exact Sub.table (by simp) (by simp)) ?_
      refine AW.skip ?_
      refine blockQ.normal ?_
      refine thenQ_normal ?_
      refine AW.seq ?_
      refine AW.seqR ?_
      refine Chain.runK [] 1 fun K hK => ?_; simp; refine hK _ _ ?_; clear hK K
      refine Chain.sub (Sub.wkRow 72 rfl) ?_
      replace h := lsome h; obtain ⟨l67, hl67, h⟩ := h
      refine Chain.sub (S' := mk 87 [] [(0, .d (.lit (.string a0))), (2, .ptr 2 0 0), (64, .b false), (72, .ref 72 0 l67.length)] [(2, some (.box [.i 0, .d (.lit (.string (ByteArray.mk #[]))), .i 0, .i 0])), (72, R9 l67)]) (by simp; subst hl67; exact Sub.table (by simp) (by simp)) ?_
      refine Chain.runK [] 2 fun K hK => ?_; simp; refine hK _ _ ?_; clear hK K
      refine Chain.sub (S' := mk 87 [] [(0, .d (.lit (.string a0))), (2, .ptr 2 0 0), (72, .ref 72 0 l67.length), (73, .i (l67.length : Int)), (74, .i 0)] [(2, some (.box [.i 0, .d (.lit (.string (ByteArray.mk #[]))), .i 0, .i 0])), (72, R9 l67)]) Sub.tt ?_
      refine Chain.nil ?_
      refine AW.lastJ (fun (_ : Unit) => mk 87 [] [(2, .ptr 2 0 0)] [(2, some (.box [.i 0, .d (.lit (.string (ByteArray.mk #[]))), .i 0, .i 0]))]) h ?_ ?_ <;> clear h
      ·intro o h
       refine AW.block ?_
       refine AW.iter (fun (v73 : Int) => mk 87 [] [(0, .d (.lit (.string a0))), (2, .ptr 2 0 0), (72, .ref 72 0 l67.length), (73, .i (l67.length : Int)), (74, .i v73)] [(2, some (.box [.i 0, .d (.lit (.string (ByteArray.mk #[]))), .i 0, .i 0])), (72, R9 l67)]) h Sub.tt ?_
       clear h
       rintro v73 x h
       refine AW.seqR ?_
       refine Chain.runK [] 1 fun K hK => ?_; simp; refine hK _ _ ?_; clear hK K
       refine Chain.sub (S' := mk 87 [] [(0, .d (.lit (.string a0))), (2, .ptr 2 0 0), (72, .ref 72 0 l67.length), (73, .i (l67.length : Int)), (74, .i v73), (75, .b (decide (v73 < (l67.length : Int))))] [(2, some (.box [.i 0, .d (.lit (.string (ByteArray.mk #[]))), .i 0, .i 0])), (72, R9 l67)]) Sub.tt ?_
       refine Chain.nil ?_
       refine AW.seq ?_
       replace h := isome h; rcases h with ⟨c87, h⟩ | ⟨c87, h⟩
       ·have c87_ : decide (v73 < (l67.length : Int)) = true := decide_eq_true c87
        refine AW.condT (b := decide (v73 < (l67.length : Int))) rfl c87_ ?_
        refine AW.sub (Sub.bool 75 (b := decide (v73 < (l67.length : Int))) rfl c87_) ?_
        refine AW.sub (S' := mk 87 [] [(0, .d (.lit (.string a0))), (2, .ptr 2 0 0), (72, .ref 72 0 l67.length), (73, .i (l67.length : Int)), (74, .i v73), (75, .b true)] [(2, some (.box [.i 0, .d (.lit (.string (ByteArray.mk #[]))), .i 0, .i 0])), (72, R9 l67)]) (by simp; exact Sub.table (by simp) (by simp)) ?_
        refine AW.skip ?_
        refine thenQ_normal ?_
        refine AW.seq ?_
        refine AW.block ?_
        refine AW.seqR ?_
        replace h := bsome h; obtain ⟨x88, hx88, h⟩ := h
        obtain ⟨k89, hx88k, hx88, hx88a, hx88b⟩ := idx_some hx88
        refine Chain.runK [] 3 fun K hK => ?_; simp [hx88, hx88k, hx88a, hx88b]; refine hK _ _ ?_; clear hK K
        refine Chain.sub (S' := mk 87 [] [(0, .d (.lit (.string a0))), (2, .ptr 2 0 0), (9, .d (.lit (.string x88))), (72, .ref 72 0 l67.length), (73, .i (l67.length : Int)), (74, .i v73)] [(2, some (.box [.i 0, .d (.lit (.string (ByteArray.mk #[]))), .i 0, .i 0])), (72, R9 l67)]) Sub.tt ?_
        refine Chain.nil ?_
        refine AW.seqR ?_
        refine Chain.runK [] 2 fun K hK => ?_; simp; refine hK _ _ ?_; clear hK K
        refine Chain.sub (S' := mk 87 [] [(0, .d (.lit (.string a0))), (2, .ptr 2 0 0), (9, .d (.lit (.string x88))), (72, .ref 72 0 l67.length), (73, .i (l67.length : Int)), (74, .i v73), (78, .d (.lit (.string a0))), (79, .d (.lit (.string x88)))] [(2, some (.box [.i 0, .d (.lit (.string (ByteArray.mk #[]))), .i 0, .i 0])), (72, R9 l67)]) Sub.tt ?_
        replace h := bsome h; obtain ⟨r90, hr90, h⟩ := h
        refine Chain.callL (d := 80) (p20 N a0 x88 r90 hr90) (by simp) rfl rfl (by simp <;> rfl) (by simp <;> rfl) ent20 (by simp <;> rfl) ?_
        refine Chain.sub (S' := mk 87 [] [(0, .d (.lit (.string a0))), (2, .ptr 2 0 0), (9, .d (.lit (.string x88))), (72, .ref 72 0 l67.length), (73, .i (l67.length : Int)), (74, .i v73), (78, .d (.lit (.string a0))), (79, .d (.lit (.string x88))), (80, .b r90)] [(2, some (.box [.i 0, .d (.lit (.string (ByteArray.mk #[]))), .i 0, .i 0])), (72, R9 l67)]) (by simp; exact Sub.table (by simp) (by simp)) ?_
        refine Chain.nil ?_
        replace h := isome h; rcases h with ⟨c91, h⟩ | ⟨c91, h⟩
        ·have c91_ : r90 = true := c91
         refine AW.condT (b := r90) rfl c91_ ?_
         refine AW.sub (Sub.bool 80 (b := r90) rfl c91_) ?_
         refine AW.sub (S' := mk 87 [] [(0, .d (.lit (.string a0))), (2, .ptr 2 0 0), (9, .d (.lit (.string x88))), (72, .ref 72 0 l67.length), (73, .i (l67.length : Int)), (74, .i v73), (78, .d (.lit (.string a0))), (79, .d (.lit (.string x88))), (80, .b true)] [(2, some (.box [.i 0, .d (.lit (.string (ByteArray.mk #[]))), .i 0, .i 0])), (72, R9 l67)]) (by simp; exact Sub.table (by simp) (by simp)) ?_
         refine AW.seqR ?_
         refine Chain.runK [] 7 fun K hK => ?_; simp; refine hK _ _ ?_; clear hK K
         refine Chain.sub (S' := mk 87 [] [(2, .ptr 2 0 0), (3, .i (x88.size : Int)), (4, .b true)] [(2, some (.box [.i 5, .d (.lit (.string x88)), .i 0, .i 0]))]) Sub.tt ?_
         refine Chain.nil ?_
         refine AW.ret ?_
         cases h
         refine blockQ.ret ?_
         refine thenQ_pass (by simp) ?_
         refine PostI.out (by simp) ?_
         rintro rfl
         refine blockQ.ret ?_
         refine PostJ.out (by simp) ?_
         rintro rfl
         refine thenQ_pass (by simp) ?_
         exact FinC.ret (by simp) (by simp)
        ·have c91_ : r90 = false := Bool.eq_false_iff.2 c91
         refine AW.condF (b := r90) rfl c91_ ?_
         refine AW.sub (Sub.bool 80 (b := r90) rfl c91_) ?_
         refine AW.sub (S' := mk 87 [] [(0, .d (.lit (.string a0))), (2, .ptr 2 0 0), (9, .d (.lit (.string x88))), (72, .ref 72 0 l67.length), (73, .i (l67.length : Int)), (74, .i v73), (78, .d (.lit (.string a0))), (79, .d (.lit (.string x88))), (80, .b false)] [(2, some (.box [.i 0, .d (.lit (.string (ByteArray.mk #[]))), .i 0, .i 0])), (72, R9 l67)]) (by simp; exact Sub.table (by simp) (by simp)) ?_
         refine AW.skip ?_
         refine blockQ.normal ?_
         refine thenQ_normal ?_
         refine AW.region ?_
         replace h := bsome h; obtain ⟨v92, hv92, h⟩ := h
         have hv92 := chkI_some hv92
         refine Chain.runK [] 2 fun K hK => ?_; simp [hv92]; refine hK _ _ ?_; clear hK K
         refine Chain.sub (S' := mk 87 [] [(0, .d (.lit (.string a0))), (2, .ptr 2 0 0), (72, .ref 72 0 l67.length), (73, .i (l67.length : Int)), (74, .i v92)] [(2, some (.box [.i 0, .d (.lit (.string (ByteArray.mk #[]))), .i 0, .i 0])), (72, R9 l67)]) Sub.tt ?_
         refine Chain.nil ?_
         cases h
         refine PostI.next ?_
         exact Sub.tt
       ·have c87_ : decide (v73 < (l67.length : Int)) = false := decide_eq_false c87
        refine AW.condF (b := decide (v73 < (l67.length : Int))) rfl c87_ ?_
        refine AW.sub (Sub.bool 75 (b := decide (v73 < (l67.length : Int))) rfl c87_) ?_
        refine AW.sub (S' := mk 87 [] [(0, .d (.lit (.string a0))), (2, .ptr 2 0 0), (72, .ref 72 0 l67.length), (73, .i (l67.length : Int)), (74, .i v73), (75, .b false)] [(2, some (.box [.i 0, .d (.lit (.string (ByteArray.mk #[]))), .i 0, .i 0])), (72, R9 l67)]) (by simp; exact Sub.table (by simp) (by simp)) ?_
        refine AW.exit ?_
        cases h
        refine thenQ_pass (by simp) ?_
        refine PostI.out (by simp) ?_
        rintro rfl
        refine blockQ.hit ?_
        refine PostJ.next ?_
        exact Sub.tt
      ·rintro ⟨⟩ h
       refine thenQ_normal ?_
       refine AW.seqR ?_
       refine Chain.runK [] 4 fun K hK => ?_; simp; refine hK _ _ ?_; clear hK K
       refine Chain.sub (S' := mk 87 [] [(2, .ptr 2 0 0), (3, .i 0), (4, .b false)] [(2, some (.box [.i 0, .d (.lit (.string (ByteArray.mk #[]))), .i 0, .i 0]))]) Sub.tt ?_
       refine Chain.nil ?_
       refine AW.ret ?_
       cases h
       exact FinC.ret (by simp) (by simp)

end Go.Proofs.YtdiekinmoklonabDoor
