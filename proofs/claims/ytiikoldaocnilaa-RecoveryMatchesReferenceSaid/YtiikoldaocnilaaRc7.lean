/- Functions of the program as functional programs; the code computes them. -/
import Derived.Test.YtiikoldaocnilaaRc6
namespace Go.Proofs.Ytiikoldaocnilaa
open Go.Ab Go.Rp
attribute [-simp] List.all_eq_true Array.all_toList Array.all_eq_true

/-- (*stemma/stemref5.Engine).PageLSN -/
def d34 (N : Nat) (a0 : S56) (a1 : Int) : Option Int :=
 Option.bind (α := Int) (
  iterN (σ := (Int × Int)) (ρ := Int) (fun ((v10, v11) : (Int × Int)) =>
   if v11 < (a0.Log.length : Int) then (
    (idx a0.Log v11).bind fun x36 =>
    Option.bind (α := Bool) (
     if x36.Kind < 3 then (
      some (x36.Page == a1)
     ) else
     some false
    ) fun (v39 : Bool) =>
    if v39 = true then (
     (chkI (v11 + 1)).bind fun v42 =>
     (chkI (v11 + 1)).bind fun v43 =>
     some (.inl (v42, v43))
    ) else
    (chkI (v11 + 1)).bind fun v44 =>
    some (.inl (v10, v44))
   ) else
   some (.inr v10)
  ) N (0, 0)
 ) fun (v34 : Int) =>
 some v34
set_option maxRecDepth 100000 in
set_option maxHeartbeats 4000000 in
theorem p34 (N : Nat) (a0 : S56) (a1 : Int) (r : Int) (h : d34 N a0 a1 = some r) : FunC Try.prog 34 [.d (.pim [.sl (a0.Buffer.map (cI .i64)), .sl (a0.Disk.map (cI .i64)), .sl (a0.DiskLSN.map (cI .i64)), .sl (a0.Log.map cS84), .lit (.int .i64 a0.Flushed), .lit (.int .i64 a0.LastID), .sl (a0.Active.map (cI .i64))]), .i a1] (.i r) := by
 unfold d34 at h
 refine FunC.enter 31 [(0, .d (.pim [.sl (a0.Buffer.map (cI .i64)), .sl (a0.Disk.map (cI .i64)), .sl (a0.DiskLSN.map (cI .i64)), .sl (a0.Log.map cS84), .lit (.int .i64 a0.Flushed), .lit (.int .i64 a0.LastID), .sl (a0.Active.map (cI .i64))])), (1, .i a1)] (by simp) Try.func34 rfl (of_decide_eq_true rfl) rfl rfl ?_
 refine AW.seqR ?_
 refine Chain.runK [] 1 fun K hK => ?_; simp; refine hK _ _ ?_; clear hK K
 refine Chain.sub (S' := mk 31 [] [(0, .d (.pim [.sl (a0.Buffer.map (cI .i64)), .sl (a0.Disk.map (cI .i64)), .sl (a0.DiskLSN.map (cI .i64)), .sl (a0.Log.map cS84), .lit (.int .i64 a0.Flushed), .lit (.int .i64 a0.LastID), .sl (a0.Active.map (cI .i64))])), (1, .i a1)] []) Sub.tt ?_
 refine Chain.nil ?_
 refine AW.seqR ?_
 refine Chain.runK [] 1 fun K hK => ?_; simp; refine hK _ _ ?_; clear hK K
 refine Chain.sub (S' := mk 31 [] [(0, .d (.pim [.sl (a0.Buffer.map (cI .i64)), .sl (a0.Disk.map (cI .i64)), .sl (a0.DiskLSN.map (cI .i64)), .sl (a0.Log.map cS84), .lit (.int .i64 a0.Flushed), .lit (.int .i64 a0.LastID), .sl (a0.Active.map (cI .i64))])), (1, .i a1), (5, .i 0)] []) Sub.tt ?_
 refine Chain.nil ?_
 refine AW.seq ?_
 refine AW.seqR ?_
 refine Chain.runK [] 6 fun K hK => ?_; simp; refine hK _ _ ?_; clear hK K
 refine Chain.sub (S' := mk 31 [] [(1, .i a1), (5, .i 0), (11, .d (.sl (a0.Log.map cS84))), (12, .i (a0.Log.length : Int)), (13, .i 0)] []) Sub.tt ?_
 refine Chain.nil ?_
 refine AW.lastN (fun (v34 : Int) => mk 31 [] [(5, .i v34)] []) h ?_ ?_ <;> clear h
 ·intro o h
  refine AW.block ?_
  refine AW.iter (fun ((v10, v11) : (Int × Int)) => mk 31 [] [(1, .i a1), (5, .i v10), (11, .d (.sl (a0.Log.map cS84))), (12, .i (a0.Log.length : Int)), (13, .i v11)] []) h Sub.tt ?_
  clear h
  rintro ⟨v10, v11⟩ x h
  dsimp only at h ⊢
  refine AW.seqR ?_
  refine Chain.runK [] 1 fun K hK => ?_; simp; refine hK _ _ ?_; clear hK K
  refine Chain.sub (S' := mk 31 [] [(1, .i a1), (5, .i v10), (11, .d (.sl (a0.Log.map cS84))), (12, .i (a0.Log.length : Int)), (13, .i v11), (14, .b (decide (v11 < (a0.Log.length : Int))))] []) Sub.tt ?_
  refine Chain.nil ?_
  refine AW.seq ?_
  replace h := isome h; rcases h with ⟨c35, h⟩ | ⟨c35, h⟩
  ·have c35_ : decide (v11 < (a0.Log.length : Int)) = true := decide_eq_true c35
   refine AW.condT (b := decide (v11 < (a0.Log.length : Int))) rfl c35_ ?_
   refine AW.sub (Sub.bool 14 (b := decide (v11 < (a0.Log.length : Int))) rfl c35_) ?_
   refine AW.sub (S' := mk 31 [] [(1, .i a1), (5, .i v10), (11, .d (.sl (a0.Log.map cS84))), (12, .i (a0.Log.length : Int)), (13, .i v11), (14, .b true)] []) (by simp; exact Sub.table (by simp) (by simp)) ?_
   refine AW.skip ?_
   refine thenQ_normal ?_
   refine AW.seq ?_
   refine AW.block ?_
   refine AW.seqR ?_
   replace h := bsome h; obtain ⟨x36, hx36, h⟩ := h
   obtain ⟨k37, hx36k, hx36, hx36a, hx36b⟩ := idx_some hx36
   refine Chain.runK [] 6 fun K hK => ?_; simp [hx36, hx36k, hx36a]; refine hK _ _ ?_; clear hK K
   refine Chain.sub (S' := mk 31 [] [(1, .i a1), (5, .i v10), (6, .i v11), (7, .ptr 7 0 0), (11, .d (.sl (a0.Log.map cS84))), (12, .i (a0.Log.length : Int)), (13, .i v11)] [(7, some (.box [.i x36.Kind, .i x36.Tx, .i x36.Page, .i x36.Before, .i x36.After]))]) Sub.tt ?_
   refine Chain.nil ?_
   replace h := bsome h; obtain ⟨v39, hj, h⟩ := h
   refine AW.cutR (mk 31 [] [(1, .i a1), (5, .i v10), (6, .i v11), (11, .d (.sl (a0.Log.map cS84))), (12, .i (a0.Log.length : Int)), (13, .i v11), (26, .b v39)] []) ?_ ?_
   ·clear h; have h := hj; clear hj
    refine Chain.runK [] 4 fun K hK => ?_; simp; refine hK _ _ ?_; clear hK K
    refine Chain.sub (S' := mk 31 [] [(1, .i a1), (5, .i v10), (6, .i v11), (7, .ptr 7 0 0), (11, .d (.sl (a0.Log.map cS84))), (12, .i (a0.Log.length : Int)), (13, .i v11), (21, .b (decide (x36.Kind < 3)))] [(7, some (.box [.i x36.Kind, .i x36.Tx, .i x36.Page, .i x36.Before, .i x36.After]))]) Sub.tt ?_
    replace h := isome h; rcases h with ⟨c40, h⟩ | ⟨c40, h⟩
    ·have c40_ : decide (x36.Kind < 3) = true := decide_eq_true c40
     refine Chain.sub (Sub.bool 21 (b := decide (x36.Kind < 3)) rfl c40_) ?_
     refine Chain.sub (S' := mk 31 [] [(1, .i a1), (5, .i v10), (6, .i v11), (7, .ptr 7 0 0), (11, .d (.sl (a0.Log.map cS84))), (12, .i (a0.Log.length : Int)), (13, .i v11), (21, .b true)] [(7, some (.box [.i x36.Kind, .i x36.Tx, .i x36.Page, .i x36.Before, .i x36.After]))]) (by simp; exact Sub.table (by simp) (by simp)) ?_
     refine Chain.runK [] 5 fun K hK => ?_; simp; refine hK _ _ ?_; clear hK K
     refine Chain.sub (S' := mk 31 [] [(1, .i a1), (5, .i v10), (6, .i v11), (11, .d (.sl (a0.Log.map cS84))), (12, .i (a0.Log.length : Int)), (13, .i v11), (22, .ptr 7 0 2), (23, .i x36.Page), (24, .i a1), (25, .b (x36.Page == a1)), (26, .b (x36.Page == a1))] [(7, some (.box [.i x36.Kind, .i x36.Tx, .i x36.Page, .i x36.Before, .i x36.After]))]) Sub.tt ?_
     cases h
     exact Chain.nil Sub.tt
    ·have c40_ : decide (x36.Kind < 3) = false := decide_eq_false c40
     refine Chain.sub (Sub.bool 21 (b := decide (x36.Kind < 3)) rfl c40_) ?_
     refine Chain.sub (S' := mk 31 [] [(1, .i a1), (5, .i v10), (6, .i v11), (7, .ptr 7 0 0), (11, .d (.sl (a0.Log.map cS84))), (12, .i (a0.Log.length : Int)), (13, .i v11), (21, .b false)] [(7, some (.box [.i x36.Kind, .i x36.Tx, .i x36.Page, .i x36.Before, .i x36.After]))]) (by simp; exact Sub.table (by simp) (by simp)) ?_
     refine Chain.runK [] 5 fun K hK => ?_; simp; refine hK _ _ ?_; clear hK K
     refine Chain.sub (S' := mk 31 [] [(1, .i a1), (5, .i v10), (6, .i v11), (11, .d (.sl (a0.Log.map cS84))), (12, .i (a0.Log.length : Int)), (13, .i v11), (22, .tup []), (23, .tup []), (24, .tup []), (25, .tup []), (26, .b false)] []) Sub.tt ?_
     cases h
     exact Chain.nil Sub.tt
   ·clear hj
    replace h := isome h; rcases h with ⟨c41, h⟩ | ⟨c41, h⟩
    ·have c41_ : v39 = true := c41
     refine AW.condT (b := v39) rfl c41_ ?_
     refine AW.sub (Sub.bool 26 (b := v39) rfl c41_) ?_
     refine AW.sub (S' := mk 31 [] [(1, .i a1), (5, .i v10), (6, .i v11), (11, .d (.sl (a0.Log.map cS84))), (12, .i (a0.Log.length : Int)), (13, .i v11), (26, .b true)] []) (by simp; exact Sub.table (by simp) (by simp)) ?_
     refine AW.region ?_
     replace h := bsome h; obtain ⟨v42, hv42, h⟩ := h
     have hv42 := chkI_some hv42
     refine Chain.runK [] 3 fun K hK => ?_; simp [hv42]; refine hK _ _ ?_; clear hK K
     refine Chain.sub (S' := mk 31 [] [(1, .i a1), (5, .i v42), (11, .d (.sl (a0.Log.map cS84))), (12, .i (a0.Log.length : Int)), (13, .i v11)] []) Sub.tt ?_
     refine Chain.nil ?_
     refine blockQ.normal ?_
     refine thenQ_normal ?_
     refine AW.region ?_
     replace h := bsome h; obtain ⟨v43, hv43, h⟩ := h
     have hv43 := chkI_some hv43
     refine Chain.runK [] 2 fun K hK => ?_; simp [hv43]; refine hK _ _ ?_; clear hK K
     refine Chain.sub (S' := mk 31 [] [(1, .i a1), (5, .i v42), (11, .d (.sl (a0.Log.map cS84))), (12, .i (a0.Log.length : Int)), (13, .i v43)] []) Sub.tt ?_
     refine Chain.nil ?_
     cases h
     refine PostI.next ?_
     exact Sub.tt
    ·have c41_ : v39 = false := Bool.eq_false_iff.2 c41
     refine AW.condF (b := v39) rfl c41_ ?_
     refine AW.sub (Sub.bool 26 (b := v39) rfl c41_) ?_
     refine AW.sub (S' := mk 31 [] [(1, .i a1), (5, .i v10), (6, .i v11), (11, .d (.sl (a0.Log.map cS84))), (12, .i (a0.Log.length : Int)), (13, .i v11), (26, .b false)] []) (by simp; exact Sub.table (by simp) (by simp)) ?_
     refine AW.skip ?_
     refine blockQ.normal ?_
     refine thenQ_normal ?_
     refine AW.region ?_
     replace h := bsome h; obtain ⟨v44, hv44, h⟩ := h
     have hv44 := chkI_some hv44
     refine Chain.runK [] 2 fun K hK => ?_; simp [hv44]; refine hK _ _ ?_; clear hK K
     refine Chain.sub (S' := mk 31 [] [(1, .i a1), (5, .i v10), (11, .d (.sl (a0.Log.map cS84))), (12, .i (a0.Log.length : Int)), (13, .i v44)] []) Sub.tt ?_
     refine Chain.nil ?_
     cases h
     refine PostI.next ?_
     exact Sub.tt
  ·have c35_ : decide (v11 < (a0.Log.length : Int)) = false := decide_eq_false c35
   refine AW.condF (b := decide (v11 < (a0.Log.length : Int))) rfl c35_ ?_
   refine AW.sub (Sub.bool 14 (b := decide (v11 < (a0.Log.length : Int))) rfl c35_) ?_
   refine AW.sub (S' := mk 31 [] [(1, .i a1), (5, .i v10), (11, .d (.sl (a0.Log.map cS84))), (12, .i (a0.Log.length : Int)), (13, .i v11), (14, .b false)] []) (by simp; exact Sub.table (by simp) (by simp)) ?_
   refine AW.exit ?_
   cases h
   refine thenQ_pass (by simp) ?_
   refine PostI.out (by simp) ?_
   rintro rfl
   refine blockQ.hit ?_
   refine PostN.next ?_
   exact Sub.tt
 ·rintro v34 h
  refine thenQ_normal ?_
  refine AW.seqR ?_
  refine Chain.runK [] 2 fun K hK => ?_; simp; refine hK _ _ ?_; clear hK K
  refine Chain.sub (S' := mk 31 [] [(4, .i v34)] []) Sub.tt ?_
  refine Chain.nil ?_
  refine AW.ret ?_
  cases h
  exact FinC.ret (by simp) (by simp)

/-- (*stemma/recovery.Engine).FlushLog -/
def d35 (_N : Nat) (a0 : S74) (a1 : Int) : Option (S74 × Int) :=
 Option.bind (α := Bool) (
  if a1 < 0 then (
   some true
  ) else
  some (decide (a1 > 2000))
 ) fun (v2 : Bool) =>
 if v2 = true then (
  some (a0, 1)
 ) else
 (chkI (a0.flushed + a1)).bind fun v5 =>
 letv (minI (a0.log.length : Int) v5) fun v6 =>
 some ((S74.mk a0.buffer a0.disk a0.log v6 a0.lastID a0.active a0.writer), 0)
set_option maxRecDepth 100000 in
set_option maxHeartbeats 4000000 in
theorem p35 (N : Nat) (a0 : S74) (a1 : Int) (r : (S74 × Int)) (h : d35 N a0 a1 = some r) : FunM Try.prog 35 [.ptr 1000 0 0, .i a1] [(1000, some (.box [.ref 25000 0 a0.buffer.length, .ref 25001 0 a0.disk.length, .ref 25002 0 a0.log.length, .i a0.flushed, .i a0.lastID, .ref 25005 0 a0.active.length, .ref 25006 0 a0.writer.length])), (25000, R78 a0.buffer), (25001, R78 a0.disk), (25002, R80 a0.log), (25005, R3 a0.active), (25006, R3 a0.writer)] [1000] (.i r.2) ([(1000, (.box [.ref 25000 0 r.1.buffer.length, .ref 25001 0 r.1.disk.length, .ref 25002 0 r.1.log.length, .i r.1.flushed, .i r.1.lastID, .ref 25005 0 r.1.active.length, .ref 25006 0 r.1.writer.length])), (25000, (.arr 78 2 (r.1.buffer.map cS78))), (25001, (.arr 78 2 (r.1.disk.map cS78))), (25002, (.arr 80 5 (r.1.log.map cS80))), (25005, (.arr 3 1 (r.1.active.map (cI .i64)))), (25006, (.arr 3 1 (r.1.writer.map (cI .i64))))]) := by
 unfold d35 at h
 refine FunM.enter 26 [(0, .ptr 1000 0 0), (1, .i a1)] Try.func35 rfl (of_decide_eq_true rfl) rfl rfl ?_
 refine AW.seqR ?_
 refine Chain.runK [] 1 fun K hK => ?_; simp; refine hK _ _ ?_; clear hK K
 refine Chain.sub (S' := mk 26 [1000] [(0, .ptr 1000 0 0), (1, .i a1)] [(1000, some (.box [.ref 25000 0 a0.buffer.length, .ref 25001 0 a0.disk.length, .ref 25002 0 a0.log.length, .i a0.flushed, .i a0.lastID, .ref 25005 0 a0.active.length, .ref 25006 0 a0.writer.length])), (25000, R78 a0.buffer), (25001, R78 a0.disk), (25002, R80 a0.log), (25005, R3 a0.active), (25006, R3 a0.writer)]) Sub.tt ?_
 refine Chain.nil ?_
 refine AW.seq ?_
 replace h := bsome h; obtain ⟨v2, hj, h⟩ := h
 refine AW.cutR (mk 26 [1000] [(0, .ptr 1000 0 0), (1, .i a1), (10, .b v2)] [(1000, some (.box [.ref 25000 0 a0.buffer.length, .ref 25001 0 a0.disk.length, .ref 25002 0 a0.log.length, .i a0.flushed, .i a0.lastID, .ref 25005 0 a0.active.length, .ref 25006 0 a0.writer.length])), (25000, R78 a0.buffer), (25001, R78 a0.disk), (25002, R80 a0.log), (25005, R3 a0.active), (25006, R3 a0.writer)]) ?_ ?_
 ·clear h; have h := hj; clear hj
  refine Chain.runK [] 3 fun K hK => ?_; simp; refine hK _ _ ?_; clear hK K
  refine Chain.sub (S' := mk 26 [1000] [(0, .ptr 1000 0 0), (1, .i a1), (7, .b (decide (a1 < 0)))] [(1000, some (.box [.ref 25000 0 a0.buffer.length, .ref 25001 0 a0.disk.length, .ref 25002 0 a0.log.length, .i a0.flushed, .i a0.lastID, .ref 25005 0 a0.active.length, .ref 25006 0 a0.writer.length])), (25000, R78 a0.buffer), (25001, R78 a0.disk), (25002, R80 a0.log), (25005, R3 a0.active), (25006, R3 a0.writer)]) Sub.tt ?_
  replace h := isome h; rcases h with ⟨c3, h⟩ | ⟨c3, h⟩
  ·have c3_ : decide (a1 < 0) = true := decide_eq_true c3
   refine Chain.sub (Sub.bool 7 (b := decide (a1 < 0)) rfl c3_) ?_
   refine Chain.sub (S' := mk 26 [1000] [(0, .ptr 1000 0 0), (1, .i a1), (7, .b true)] [(1000, some (.box [.ref 25000 0 a0.buffer.length, .ref 25001 0 a0.disk.length, .ref 25002 0 a0.log.length, .i a0.flushed, .i a0.lastID, .ref 25005 0 a0.active.length, .ref 25006 0 a0.writer.length])), (25000, R78 a0.buffer), (25001, R78 a0.disk), (25002, R80 a0.log), (25005, R3 a0.active), (25006, R3 a0.writer)]) (by simp; exact Sub.table (by simp) (by simp)) ?_
   refine Chain.runK [] 3 fun K hK => ?_; simp; refine hK _ _ ?_; clear hK K
   refine Chain.sub (S' := mk 26 [1000] [(0, .ptr 1000 0 0), (1, .i a1), (10, .b true)] [(1000, some (.box [.ref 25000 0 a0.buffer.length, .ref 25001 0 a0.disk.length, .ref 25002 0 a0.log.length, .i a0.flushed, .i a0.lastID, .ref 25005 0 a0.active.length, .ref 25006 0 a0.writer.length])), (25000, R78 a0.buffer), (25001, R78 a0.disk), (25002, R80 a0.log), (25005, R3 a0.active), (25006, R3 a0.writer)]) Sub.tt ?_
   cases h
   exact Chain.nil Sub.tt
  ·have c3_ : decide (a1 < 0) = false := decide_eq_false c3
   refine Chain.sub (Sub.bool 7 (b := decide (a1 < 0)) rfl c3_) ?_
   refine Chain.sub (S' := mk 26 [1000] [(0, .ptr 1000 0 0), (1, .i a1), (7, .b false)] [(1000, some (.box [.ref 25000 0 a0.buffer.length, .ref 25001 0 a0.disk.length, .ref 25002 0 a0.log.length, .i a0.flushed, .i a0.lastID, .ref 25005 0 a0.active.length, .ref 25006 0 a0.writer.length])), (25000, R78 a0.buffer), (25001, R78 a0.disk), (25002, R80 a0.log), (25005, R3 a0.active), (25006, R3 a0.writer)]) (by simp; exact Sub.table (by simp) (by simp)) ?_
   refine Chain.runK [] 3 fun K hK => ?_; simp; refine hK _ _ ?_; clear hK K
   refine Chain.sub (S' := mk 26 [1000] [(0, .ptr 1000 0 0), (1, .i a1), (10, .b (decide (a1 > 2000)))] [(1000, some (.box [.ref 25000 0 a0.buffer.length, .ref 25001 0 a0.disk.length, .ref 25002 0 a0.log.length, .i a0.flushed, .i a0.lastID, .ref 25005 0 a0.active.length, .ref 25006 0 a0.writer.length])), (25000, R78 a0.buffer), (25001, R78 a0.disk), (25002, R80 a0.log), (25005, R3 a0.active), (25006, R3 a0.writer)]) Sub.tt ?_
   cases h
   exact Chain.nil Sub.tt
 ·clear hj
  replace h := isome h; rcases h with ⟨c4, h⟩ | ⟨c4, h⟩
  ·have c4_ : v2 = true := c4
   refine AW.condT (b := v2) rfl c4_ ?_
   refine AW.sub (Sub.bool 10 (b := v2) rfl c4_) ?_
   refine AW.sub (S' := mk 26 [1000] [(0, .ptr 1000 0 0), (1, .i a1), (10, .b true)] [(1000, some (.box [.ref 25000 0 a0.buffer.length, .ref 25001 0 a0.disk.length, .ref 25002 0 a0.log.length, .i a0.flushed, .i a0.lastID, .ref 25005 0 a0.active.length, .ref 25006 0 a0.writer.length])), (25000, R78 a0.buffer), (25001, R78 a0.disk), (25002, R80 a0.log), (25005, R3 a0.active), (25006, R3 a0.writer)]) (by simp; exact Sub.table (by simp) (by simp)) ?_
   refine AW.seqR ?_
   refine Chain.runK [] 1 fun K hK => ?_; simp; refine hK _ _ ?_; clear hK K
   refine Chain.sub (S' := mk 26 [1000] [(4, .i 1)] [(1000, some (.box [.ref 25000 0 a0.buffer.length, .ref 25001 0 a0.disk.length, .ref 25002 0 a0.log.length, .i a0.flushed, .i a0.lastID, .ref 25005 0 a0.active.length, .ref 25006 0 a0.writer.length])), (25000, R78 a0.buffer), (25001, R78 a0.disk), (25002, R80 a0.log), (25005, R3 a0.active), (25006, R3 a0.writer)]) Sub.tt ?_
   refine Chain.nil ?_
   refine AW.ret ?_
   cases h
   refine thenQ_pass (by simp) ?_
   exact FinF.ret (by simp) (by simp)
  ·have c4_ : v2 = false := Bool.eq_false_iff.2 c4
   refine AW.condF (b := v2) rfl c4_ ?_
   refine AW.sub (Sub.bool 10 (b := v2) rfl c4_) ?_
   refine AW.sub (S' := mk 26 [1000] [(0, .ptr 1000 0 0), (1, .i a1), (10, .b false)] [(1000, some (.box [.ref 25000 0 a0.buffer.length, .ref 25001 0 a0.disk.length, .ref 25002 0 a0.log.length, .i a0.flushed, .i a0.lastID, .ref 25005 0 a0.active.length, .ref 25006 0 a0.writer.length])), (25000, R78 a0.buffer), (25001, R78 a0.disk), (25002, R80 a0.log), (25005, R3 a0.active), (25006, R3 a0.writer)]) (by simp; exact Sub.table (by simp) (by simp)) ?_
   refine AW.skip ?_
   refine thenQ_normal ?_
   replace h := bsome h; obtain ⟨v5, hv5, h⟩ := h
   have hv5 := chkI_some hv5
   replace h := lsome h; obtain ⟨v6, hv6, h⟩ := h
   unfold minI at hv6
   refine AW.seqT 15 (by kernel_rfl) (by kernel_rfl) fun K hK => ?_; simp [hv5, hv6]; refine hK _ _ ?_; clear hK K
   refine Chain.sub (S' := mk 26 [1000] [(23, .i v6), (25, .ptr 1000 0 3)] [(1000, some (.box [.ref 25000 0 a0.buffer.length, .ref 25001 0 a0.disk.length, .ref 25002 0 a0.log.length, .i a0.flushed, .i a0.lastID, .ref 25005 0 a0.active.length, .ref 25006 0 a0.writer.length])), (25000, R78 a0.buffer), (25001, R78 a0.disk), (25002, R80 a0.log), (25005, R3 a0.active), (25006, R3 a0.writer)]) Sub.tt ?_
   refine Chain.runK [] 1 fun K hK => ?_; simp; refine hK _ _ ?_; clear hK K
   refine Chain.sub (S' := mk 26 [1000] [] [(1000, some (.box [.ref 25000 0 a0.buffer.length, .ref 25001 0 a0.disk.length, .ref 25002 0 a0.log.length, .i v6, .i a0.lastID, .ref 25005 0 a0.active.length, .ref 25006 0 a0.writer.length])), (25000, R78 a0.buffer), (25001, R78 a0.disk), (25002, R80 a0.log), (25005, R3 a0.active), (25006, R3 a0.writer)]) Sub.tt ?_
   refine Chain.nil ?_
   refine AW.seqR ?_
   refine Chain.runK [] 1 fun K hK => ?_; simp; refine hK _ _ ?_; clear hK K
   refine Chain.sub (S' := mk 26 [1000] [(4, .i 0)] [(1000, some (.box [.ref 25000 0 a0.buffer.length, .ref 25001 0 a0.disk.length, .ref 25002 0 a0.log.length, .i v6, .i a0.lastID, .ref 25005 0 a0.active.length, .ref 25006 0 a0.writer.length])), (25000, R78 a0.buffer), (25001, R78 a0.disk), (25002, R80 a0.log), (25005, R3 a0.active), (25006, R3 a0.writer)]) Sub.tt ?_
   refine Chain.nil ?_
   refine AW.ret ?_
   cases h
   exact FinF.ret (by simp) (by simp)

/-- slices.Clone[[]stemma/recovery.page,stemma/recovery.page] -/
def d45 (_ : Nat) (a0 : (List S78)) : Option (List S78) := if a0.length * 16 ≤ Rp.reach then some a0 else none
theorem p45 (N : Nat) (a0 : (List S78)) (r : (List S78)) (h : d45 N a0 = some r) : FunO Try.prog 45 [.d (.sl (a0.map cS78))] (.ref 0 0 r.length) (.arr 78 2 (r.map cS78)) := by
 obtain ⟨hz, h⟩ := gsome h
 cases h
 refine FunO.enter 8 [(0, .d (.sl (a0.map cS78)))] Try.func45 rfl (of_decide_eq_true rfl) rfl rfl ?_
 refine AW.goR [] 1 fun K hK => ?_; simp; refine hK _ ?_; clear hK K
 refine AW.seq ?_
 refine AW.seqR ?_
 refine Chain.runK [] 1 fun K hK => ?_; simp; refine hK _ _ ?_; clear hK K
 refine Chain.eqNilE (es := a0.map cS78) (by simp) rfl ty71 rfl (by simp) (by simp) fun b hb => ?_
 refine Chain.nil ?_
 cases b with
 | true =>
  have he : a0 = [] := by
   cases a0 with
   | nil => rfl
   | cons x xs => exact absurd (hb (by simp)) (by simp)
  subst he
  refine AW.condK fun K1 K2 k1 k2 => ?_; simp; refine k1 ?_; clear k1 k2 K1 K2
  refine AW.goR [] 1 fun K hK => ?_; simp; refine hK _ ?_; clear hK K
  refine AW.sub (Sub.nilOwn (t := 2) (id := 902) (T := 78) (n := 2) rfl rfl (by decide)) ?_
  refine AW.sub (S' := mk 8 [] [(2, .ref 902 0 0)] [(902, some (.arr 78 2 []))]) (by simp; exact Sub.table (by simp) (by simp)) ?_
  refine AW.ret ?_
  exact thenQ_pass (by simp) (FinO.ret (.ref 902 0 0) 902 (by simp) (by simp) (by simp) (by simp) rfl)
 | false =>
  refine AW.condK fun K1 K2 k1 k2 => ?_; simp; refine k2 ?_; clear k1 k2 K1 K2
  refine AW.skip ?_
  refine thenQ_normal ?_
  refine AW.goR [] 4 fun K hK => ?_; simp [hz]; refine hK _ ?_; clear hK K
  refine AW.sub (S' := mk 8 [] [(2, .ref 5 0 a0.length)] [(5, R78 a0)]) Sub.tt ?_
  refine AW.ret ?_
  exact FinO.ret (.ref 5 0 a0.length) 5 (by simp) (by simp) (by simp) (by simp) rfl

end Go.Proofs.Ytiikoldaocnilaa
