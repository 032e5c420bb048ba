/- Functions of the program as functional programs; the code computes them. -/
import Derived.Test.YtiikoldaocnilaaRc9
namespace Go.Proofs.Ytiikoldaocnilaa
open Go.Ab Go.Rp
attribute [-simp] List.all_eq_true Array.all_toList Array.all_eq_true

/-- stemma/stemlaw5.recoveryStep -/
def d20 (N : Nat) (a0 : S74) (a1 : S56) (a2 : (List Int)) : Option (S74 × S56 × Bool) :=
 (d9 N a2 1).bind fun r1 =>
 (d9 N a2 2).bind fun r2 =>
 (d9 N a2 3).bind fun r3 =>
 Option.bind (α := (Bool × Bool)) (
  if r2 ≥ 0 then (
   (d24 N a1.Active r1).bind fun r10 =>
   some (decide (r2 < (a1.Buffer.length : Int)), r10)
  ) else
  (d24 N a1.Active r1).bind fun r11 =>
  some (false, r11)
 ) fun ((v7, v8) : (Bool × Bool)) =>
 (d9 N a2 0).bind fun r12 =>
 if (r12 == 1) then (
  (d19 N a0).bind fun r14 =>
  if (a1.Active.length : Int) < 10 then (
   (chkI (a1.LastID + 1)).bind fun v16 =>
   (appL 8 a1.Active [v16]).bind fun _l17 =>
   Option.bind (α := Bool) (
    if (r14.2.2 == 0) then (
     some (r14.2.1 == v16)
    ) else
    some false
   ) fun (v19 : Bool) =>
   some (r14.1, (S56.mk a1.Buffer a1.Disk a1.DiskLSN a1.Log a1.Flushed v16 (a1.Active ++ [v16])), v19)
  ) else
  some (r14.1, a1, (r14.2.2 == 18))
 ) else
 if (r12 == 2) then (
  (d18 N a0 r1 r2 r3).bind fun r22 =>
  if (!v8) = true then (
   some (r22.1, a1, (r22.2 == 4))
  ) else
  if (!v7) = true then (
   some (r22.1, a1, (r22.2 == 1))
  ) else
  Option.bind (α := Bool) (
   (d26 N a1 r2).bind fun r29 =>
   if (r29 != 0) then (
    (d26 N a1 r2).bind fun r31 =>
    some (r31 != r1)
   ) else
   some false
  ) fun (v28 : Bool) =>
  if v28 = true then (
   some (r22.1, a1, (r22.2 == 16))
  ) else
  if (a1.Log.length : Int) ≥ 2000 then (
   some (r22.1, a1, (r22.2 == 18))
  ) else
  (idx a1.Buffer r2).bind fun x34 =>
  (d27 N a1 (S84.mk 1 r1 r2 x34 r3)).bind fun r36 =>
  some (r22.1, r36, (r22.2 == 0))
 ) else
 Option.bind (α := Bool) (
  if (r12 == 3) then (
   some true
  ) else
  some (r12 == 4)
 ) fun (v38 : Bool) =>
 if v38 = true then (
  (d9 N a2 0).bind fun r41 =>
  Option.bind (α := (Int × (List S78) × (List S78) × (List S80) × Int × Int × (List Int) × (List Int))) (
   if (r41 == 3) then (
    (d28 N a0 r1).bind fun r54 =>
    some (r54.2, r54.1.buffer, r54.1.disk, r54.1.log, r54.1.flushed, r54.1.lastID, r54.1.active, r54.1.writer)
   ) else
   (d29 N a0 r1).bind fun r55 =>
   some (r55.2, r55.1.buffer, r55.1.disk, r55.1.log, r55.1.flushed, r55.1.lastID, r55.1.active, r55.1.writer)
  ) fun ((v45, l46, l47, l48, v49, v50, l51, l52) : (Int × (List S78) × (List S78) × (List S80) × Int × Int × (List Int) × (List Int))) =>
  if (!v8) = true then (
   some ((S74.mk l46 l47 l48 v49 v50 l51 l52), a1, (v45 == 4))
  ) else
  (d9 N a2 0).bind fun r57 =>
  if (r57 == 4) then (
   (d30 N a1 r1).bind fun r59 =>
   some ((S74.mk l46 l47 l48 v49 v50 l51 l52), r59.1, (v45 == 0))
  ) else
  (d27 N a1 (S84.mk 3 r1 0 0 0)).bind fun r60 =>
  (d31 N r60.Active (fun b0 => d32 N b0 r1)).bind fun r61 =>
  some ((S74.mk l46 l47 l48 v49 v50 l51 l52), (S56.mk r60.Buffer r60.Disk r60.DiskLSN r60.Log (r60.Log.length : Int) r60.LastID r61), (v45 == 0))
 ) else
 if (r12 == 5) then (
  (d33 N a0 r2).bind fun r63 =>
  if v7 = true then (
   (idx a1.Buffer r2).bind fun x65 =>
   (d34 N a1 r2).bind fun r67 =>
   (idx a1.Disk r2).bind fun _x68 =>
   letv (setI a1.Disk r2 x65) fun l69 =>
   (idx a1.DiskLSN r2).bind fun _x70 =>
   letv (setI a1.DiskLSN r2 r67) fun l71 =>
   (d34 N (S56.mk a1.Buffer l69 l71 a1.Log a1.Flushed a1.LastID a1.Active) r2).bind fun r72 =>
   letv (maxI a1.Flushed r72) fun v73 =>
   some (r63.1, (S56.mk a1.Buffer l69 l71 a1.Log v73 a1.LastID a1.Active), (r63.2 == 0))
  ) else
  some (r63.1, a1, (r63.2 == 1))
 ) else
 if (r12 == 6) then (
  (d35 N a0 r2).bind fun r75 =>
  Option.bind (α := Bool) (
   if r2 ≥ 0 then (
    some (decide (r2 ≤ 2000))
   ) else
   some false
  ) fun (v77 : Bool) =>
  if v77 = true then (
   (chkI (a1.Flushed + r2)).bind fun v80 =>
   letv (minI (a1.Log.length : Int) v80) fun v81 =>
   some (r75.1, (S56.mk a1.Buffer a1.Disk a1.DiskLSN a1.Log v81 a1.LastID a1.Active), (r75.2 == 0))
  ) else
  some (r75.1, a1, (r75.2 == 1))
 ) else
 if (r12 == 7) then (
  (d36 N a0).bind fun r83 =>
  (d37 N a1).bind fun r84 =>
  Option.bind (α := Bool) (
   if (r83.2.1 == r84.2.1) then (
    some (r83.2.2 == r84.2.2)
   ) else
   some false
  ) fun (v86 : Bool) =>
  some (r83.1, r84.1, v86)
 ) else
 some (a0, a1, (0 == 0))
set_option maxRecDepth 100000 in
set_option maxHeartbeats 4000000 in
theorem p20 (N : Nat) (a0 : S74) (a1 : S56) (a2 : (List Int)) (r : (S74 × S56 × Bool)) (h : d20 N a0 a1 a2 = some r) : FunM Try.prog 20 [.ptr 1000 0 0, .ptr 2000 0 0, .d (.sl (a2.map (cI .i64)))] [(1000, some (.box [.ref 25000 0 a0.buffer.length, .ref 25001 0 a0.disk.length, .ref 25002 0 a0.log.length, .i a0.flushed, .i a0.lastID, .ref 25005 0 a0.active.length, .ref 25006 0 a0.writer.length])), (2000, some (.box [.ref 45000 0 a1.Buffer.length, .ref 45001 0 a1.Disk.length, .ref 45002 0 a1.DiskLSN.length, .ref 45003 0 a1.Log.length, .i a1.Flushed, .i a1.LastID, .ref 45006 0 a1.Active.length])), (25000, R78 a0.buffer), (25001, R78 a0.disk), (25002, R80 a0.log), (25005, R3 a0.active), (25006, R3 a0.writer), (45000, R3 a1.Buffer), (45001, R3 a1.Disk), (45002, R3 a1.DiskLSN), (45003, R84 a1.Log), (45006, R3 a1.Active)] [1000, 2000] (.b r.2.2) ([(1000, (.box [.ref 25000 0 r.1.buffer.length, .ref 25001 0 r.1.disk.length, .ref 25002 0 r.1.log.length, .i r.1.flushed, .i r.1.lastID, .ref 25005 0 r.1.active.length, .ref 25006 0 r.1.writer.length])), (25000, (.arr 78 2 (r.1.buffer.map cS78))), (25001, (.arr 78 2 (r.1.disk.map cS78))), (25002, (.arr 80 5 (r.1.log.map cS80))), (25005, (.arr 3 1 (r.1.active.map (cI .i64)))), (25006, (.arr 3 1 (r.1.writer.map (cI .i64)))), (2000, (.box [.ref 45000 0 r.2.1.Buffer.length, .ref 45001 0 r.2.1.Disk.length, .ref 45002 0 r.2.1.DiskLSN.length, .ref 45003 0 r.2.1.Log.length, .i r.2.1.Flushed, .i r.2.1.LastID, .ref 45006 0 r.2.1.Active.length])), (45000, (.arr 3 1 (r.2.1.Buffer.map (cI .i64)))), (45001, (.arr 3 1 (r.2.1.Disk.map (cI .i64)))), (45002, (.arr 3 1 (r.2.1.DiskLSN.map (cI .i64)))), (45003, (.arr 84 5 (r.2.1.Log.map cS84))), (45006, (.arr 3 1 (r.2.1.Active.map (cI .i64))))]) := by
 unfold d20 at h
 refine FunM.enter 266 [(0, .ptr 1000 0 0), (1, .ptr 2000 0 0), (2, .d (.sl (a2.map (cI .i64))))] Try.func20 rfl (of_decide_eq_true rfl) rfl rfl ?_
 refine AW.seqR ?_
 refine Chain.runK [] 1 fun K hK => ?_; simp; refine hK _ _ ?_; clear hK K
 refine Chain.sub (S' := mk 266 [1000, 2000] [(0, .ptr 1000 0 0), (1, .ptr 2000 0 0), (2, .d (.sl (a2.map (cI .i64))))] [(1000, some (.box [.ref 25000 0 a0.buffer.length, .ref 25001 0 a0.disk.length, .ref 25002 0 a0.log.length, .i a0.flushed, .i a0.lastID, .ref 25005 0 a0.active.length, .ref 25006 0 a0.writer.length])), (2000, some (.box [.ref 45000 0 a1.Buffer.length, .ref 45001 0 a1.Disk.length, .ref 45002 0 a1.DiskLSN.length, .ref 45003 0 a1.Log.length, .i a1.Flushed, .i a1.LastID, .ref 45006 0 a1.Active.length])), (25000, R78 a0.buffer), (25001, R78 a0.disk), (25002, R80 a0.log), (25005, R3 a0.active), (25006, R3 a0.writer), (45000, R3 a1.Buffer), (45001, R3 a1.Disk), (45002, R3 a1.DiskLSN), (45003, R84 a1.Log), (45006, R3 a1.Active)]) Sub.tt ?_
 refine Chain.nil ?_
 refine AW.seqR ?_
 refine Chain.runK [] 1 fun K hK => ?_; simp; refine hK _ _ ?_; clear hK K
 refine Chain.sub (S' := mk 266 [1000, 2000] [(0, .ptr 1000 0 0), (1, .ptr 2000 0 0), (2, .d (.sl (a2.map (cI .i64)))), (20, .d (.sl (a2.map (cI .i64))))] [(1000, some (.box [.ref 25000 0 a0.buffer.length, .ref 25001 0 a0.disk.length, .ref 25002 0 a0.log.length, .i a0.flushed, .i a0.lastID, .ref 25005 0 a0.active.length, .ref 25006 0 a0.writer.length])), (2000, some (.box [.ref 45000 0 a1.Buffer.length, .ref 45001 0 a1.Disk.length, .ref 45002 0 a1.DiskLSN.length, .ref 45003 0 a1.Log.length, .i a1.Flushed, .i a1.LastID, .ref 45006 0 a1.Active.length])), (25000, R78 a0.buffer), (25001, R78 a0.disk), (25002, R80 a0.log), (25005, R3 a0.active), (25006, R3 a0.writer), (45000, R3 a1.Buffer), (45001, R3 a1.Disk), (45002, R3 a1.DiskLSN), (45003, R84 a1.Log), (45006, R3 a1.Active)]) Sub.tt ?_
 replace h := bsome h; obtain ⟨r1, hr1, h⟩ := h
 refine Chain.callL (d := 21) (p9 N a2 1 r1 hr1) (by simp) rfl rfl (by simp <;> rfl) (by simp <;> rfl) ent9 (by simp <;> rfl) ?_
 refine Chain.sub (S' := mk 266 [1000, 2000] [(0, .ptr 1000 0 0), (1, .ptr 2000 0 0), (2, .d (.sl (a2.map (cI .i64)))), (20, .d (.sl (a2.map (cI .i64)))), (21, .i r1)] [(1000, some (.box [.ref 25000 0 a0.buffer.length, .ref 25001 0 a0.disk.length, .ref 25002 0 a0.log.length, .i a0.flushed, .i a0.lastID, .ref 25005 0 a0.active.length, .ref 25006 0 a0.writer.length])), (2000, some (.box [.ref 45000 0 a1.Buffer.length, .ref 45001 0 a1.Disk.length, .ref 45002 0 a1.DiskLSN.length, .ref 45003 0 a1.Log.length, .i a1.Flushed, .i a1.LastID, .ref 45006 0 a1.Active.length])), (25000, R78 a0.buffer), (25001, R78 a0.disk), (25002, R80 a0.log), (25005, R3 a0.active), (25006, R3 a0.writer), (45000, R3 a1.Buffer), (45001, R3 a1.Disk), (45002, R3 a1.DiskLSN), (45003, R84 a1.Log), (45006, R3 a1.Active)]) (by simp; exact Sub.table (by simp) (by simp)) ?_
 refine Chain.runK [] 1 fun K hK => ?_; simp; refine hK _ _ ?_; clear hK K
 refine Chain.sub (S' := mk 266 [1000, 2000] [(0, .ptr 1000 0 0), (1, .ptr 2000 0 0), (2, .d (.sl (a2.map (cI .i64)))), (21, .i r1), (22, .d (.sl (a2.map (cI .i64))))] [(1000, some (.box [.ref 25000 0 a0.buffer.length, .ref 25001 0 a0.disk.length, .ref 25002 0 a0.log.length, .i a0.flushed, .i a0.lastID, .ref 25005 0 a0.active.length, .ref 25006 0 a0.writer.length])), (2000, some (.box [.ref 45000 0 a1.Buffer.length, .ref 45001 0 a1.Disk.length, .ref 45002 0 a1.DiskLSN.length, .ref 45003 0 a1.Log.length, .i a1.Flushed, .i a1.LastID, .ref 45006 0 a1.Active.length])), (25000, R78 a0.buffer), (25001, R78 a0.disk), (25002, R80 a0.log), (25005, R3 a0.active), (25006, R3 a0.writer), (45000, R3 a1.Buffer), (45001, R3 a1.Disk), (45002, R3 a1.DiskLSN), (45003, R84 a1.Log), (45006, R3 a1.Active)]) Sub.tt ?_
 replace h := bsome h; obtain ⟨r2, hr2, h⟩ := h
 refine Chain.callL (d := 23) (p9 N a2 2 r2 hr2) (by simp) rfl rfl (by simp <;> rfl) (by simp <;> rfl) ent9 (by simp <;> rfl) ?_
 refine Chain.sub (S' := mk 266 [1000, 2000] [(0, .ptr 1000 0 0), (1, .ptr 2000 0 0), (2, .d (.sl (a2.map (cI .i64)))), (21, .i r1), (22, .d (.sl (a2.map (cI .i64)))), (23, .i r2)] [(1000, some (.box [.ref 25000 0 a0.buffer.length, .ref 25001 0 a0.disk.length, .ref 25002 0 a0.log.length, .i a0.flushed, .i a0.lastID, .ref 25005 0 a0.active.length, .ref 25006 0 a0.writer.length])), (2000, some (.box [.ref 45000 0 a1.Buffer.length, .ref 45001 0 a1.Disk.length, .ref 45002 0 a1.DiskLSN.length, .ref 45003 0 a1.Log.length, .i a1.Flushed, .i a1.LastID, .ref 45006 0 a1.Active.length])), (25000, R78 a0.buffer), (25001, R78 a0.disk), (25002, R80 a0.log), (25005, R3 a0.active), (25006, R3 a0.writer), (45000, R3 a1.Buffer), (45001, R3 a1.Disk), (45002, R3 a1.DiskLSN), (45003, R84 a1.Log), (45006, R3 a1.Active)]) (by simp; exact Sub.table (by simp) (by simp)) ?_
 refine Chain.runK [] 1 fun K hK => ?_; simp; refine hK _ _ ?_; clear hK K
 refine Chain.sub (S' := mk 266 [1000, 2000] [(0, .ptr 1000 0 0), (1, .ptr 2000 0 0), (2, .d (.sl (a2.map (cI .i64)))), (21, .i r1), (23, .i r2), (24, .d (.sl (a2.map (cI .i64))))] [(1000, some (.box [.ref 25000 0 a0.buffer.length, .ref 25001 0 a0.disk.length, .ref 25002 0 a0.log.length, .i a0.flushed, .i a0.lastID, .ref 25005 0 a0.active.length, .ref 25006 0 a0.writer.length])), (2000, some (.box [.ref 45000 0 a1.Buffer.length, .ref 45001 0 a1.Disk.length, .ref 45002 0 a1.DiskLSN.length, .ref 45003 0 a1.Log.length, .i a1.Flushed, .i a1.LastID, .ref 45006 0 a1.Active.length])), (25000, R78 a0.buffer), (25001, R78 a0.disk), (25002, R80 a0.log), (25005, R3 a0.active), (25006, R3 a0.writer), (45000, R3 a1.Buffer), (45001, R3 a1.Disk), (45002, R3 a1.DiskLSN), (45003, R84 a1.Log), (45006, R3 a1.Active)]) Sub.tt ?_
 replace h := bsome h; obtain ⟨r3, hr3, h⟩ := h
 refine Chain.callL (d := 25) (p9 N a2 3 r3 hr3) (by simp) rfl rfl (by simp <;> rfl) (by simp <;> rfl) ent9 (by simp <;> rfl) ?_
 refine Chain.sub (S' := mk 266 [1000, 2000] [(0, .ptr 1000 0 0), (1, .ptr 2000 0 0), (2, .d (.sl (a2.map (cI .i64)))), (21, .i r1), (23, .i r2), (24, .d (.sl (a2.map (cI .i64)))), (25, .i r3)] [(1000, some (.box [.ref 25000 0 a0.buffer.length, .ref 25001 0 a0.disk.length, .ref 25002 0 a0.log.length, .i a0.flushed, .i a0.lastID, .ref 25005 0 a0.active.length, .ref 25006 0 a0.writer.length])), (2000, some (.box [.ref 45000 0 a1.Buffer.length, .ref 45001 0 a1.Disk.length, .ref 45002 0 a1.DiskLSN.length, .ref 45003 0 a1.Log.length, .i a1.Flushed, .i a1.LastID, .ref 45006 0 a1.Active.length])), (25000, R78 a0.buffer), (25001, R78 a0.disk), (25002, R80 a0.log), (25005, R3 a0.active), (25006, R3 a0.writer), (45000, R3 a1.Buffer), (45001, R3 a1.Disk), (45002, R3 a1.DiskLSN), (45003, R84 a1.Log), (45006, R3 a1.Active)]) (by simp; exact Sub.table (by simp) (by simp)) ?_
 refine Chain.runK [] 4 fun K hK => ?_; simp; refine hK _ _ ?_; clear hK K
 refine Chain.sub (S' := mk 266 [1000, 2000] [(0, .ptr 1000 0 0), (1, .ptr 2000 0 0), (2, .d (.sl (a2.map (cI .i64)))), (7, .ptr 7 0 0), (8, .i r2), (9, .i r3)] [(7, some (.box [.i r1])), (1000, some (.box [.ref 25000 0 a0.buffer.length, .ref 25001 0 a0.disk.length, .ref 25002 0 a0.log.length, .i a0.flushed, .i a0.lastID, .ref 25005 0 a0.active.length, .ref 25006 0 a0.writer.length])), (2000, some (.box [.ref 45000 0 a1.Buffer.length, .ref 45001 0 a1.Disk.length, .ref 45002 0 a1.DiskLSN.length, .ref 45003 0 a1.Log.length, .i a1.Flushed, .i a1.LastID, .ref 45006 0 a1.Active.length])), (25000, R78 a0.buffer), (25001, R78 a0.disk), (25002, R80 a0.log), (25005, R3 a0.active), (25006, R3 a0.writer), (45000, R3 a1.Buffer), (45001, R3 a1.Disk), (45002, R3 a1.DiskLSN), (45003, R84 a1.Log), (45006, R3 a1.Active)]) Sub.tt ?_
 refine Chain.nil ?_
 replace h := bsome h; obtain ⟨⟨v7, v8⟩, hj, h⟩ := h
 dsimp only at h
 refine AW.cutQ (by kernel_rfl) (by kernel_rfl) (mk 266 [1000, 2000] [(0, .ptr 1000 0 0), (1, .ptr 2000 0 0), (2, .d (.sl (a2.map (cI .i64)))), (7, .ptr 7 0 0), (8, .i r2), (9, .i r3), (10, .b v7), (11, .b v8)] [(7, some (.box [.i r1])), (1000, some (.box [.ref 25000 0 a0.buffer.length, .ref 25001 0 a0.disk.length, .ref 25002 0 a0.log.length, .i a0.flushed, .i a0.lastID, .ref 25005 0 a0.active.length, .ref 25006 0 a0.writer.length])), (2000, some (.box [.ref 45000 0 a1.Buffer.length, .ref 45001 0 a1.Disk.length, .ref 45002 0 a1.DiskLSN.length, .ref 45003 0 a1.Log.length, .i a1.Flushed, .i a1.LastID, .ref 45006 0 a1.Active.length])), (25000, R78 a0.buffer), (25001, R78 a0.disk), (25002, R80 a0.log), (25005, R3 a0.active), (25006, R3 a0.writer), (45000, R3 a1.Buffer), (45001, R3 a1.Disk), (45002, R3 a1.DiskLSN), (45003, R84 a1.Log), (45006, R3 a1.Active)]) ?_ ?_
 ·clear h; have h := hj; clear hj
  refine Chain.runQ 3 fun K hK => ?_; simp; refine hK _ _ ?_; clear hK K
  refine Chain.sub (S' := mk 266 [1000, 2000] [(0, .ptr 1000 0 0), (1, .ptr 2000 0 0), (2, .d (.sl (a2.map (cI .i64)))), (7, .ptr 7 0 0), (8, .i r2), (9, .i r3), (28, .b (decide (r2 ≥ 0)))] [(7, some (.box [.i r1])), (1000, some (.box [.ref 25000 0 a0.buffer.length, .ref 25001 0 a0.disk.length, .ref 25002 0 a0.log.length, .i a0.flushed, .i a0.lastID, .ref 25005 0 a0.active.length, .ref 25006 0 a0.writer.length])), (2000, some (.box [.ref 45000 0 a1.Buffer.length, .ref 45001 0 a1.Disk.length, .ref 45002 0 a1.DiskLSN.length, .ref 45003 0 a1.Log.length, .i a1.Flushed, .i a1.LastID, .ref 45006 0 a1.Active.length])), (25000, R78 a0.buffer), (25001, R78 a0.disk), (25002, R80 a0.log), (25005, R3 a0.active), (25006, R3 a0.writer), (45000, R3 a1.Buffer), (45001, R3 a1.Disk), (45002, R3 a1.DiskLSN), (45003, R84 a1.Log), (45006, R3 a1.Active)]) Sub.tt ?_
  replace h := isome h; rcases h with ⟨c9, h⟩ | ⟨c9, h⟩
  ·have c9_ : decide (r2 ≥ 0) = true := decide_eq_true c9
   refine Chain.sub (Sub.bool 28 (b := decide (r2 ≥ 0)) rfl c9_) ?_
   refine Chain.sub (S' := mk 266 [1000, 2000] [(0, .ptr 1000 0 0), (1, .ptr 2000 0 0), (2, .d (.sl (a2.map (cI .i64)))), (7, .ptr 7 0 0), (8, .i r2), (9, .i r3), (28, .b true)] [(7, some (.box [.i r1])), (1000, some (.box [.ref 25000 0 a0.buffer.length, .ref 25001 0 a0.disk.length, .ref 25002 0 a0.log.length, .i a0.flushed, .i a0.lastID, .ref 25005 0 a0.active.length, .ref 25006 0 a0.writer.length])), (2000, some (.box [.ref 45000 0 a1.Buffer.length, .ref 45001 0 a1.Disk.length, .ref 45002 0 a1.DiskLSN.length, .ref 45003 0 a1.Log.length, .i a1.Flushed, .i a1.LastID, .ref 45006 0 a1.Active.length])), (25000, R78 a0.buffer), (25001, R78 a0.disk), (25002, R80 a0.log), (25005, R3 a0.active), (25006, R3 a0.writer), (45000, R3 a1.Buffer), (45001, R3 a1.Disk), (45002, R3 a1.DiskLSN), (45003, R84 a1.Log), (45006, R3 a1.Active)]) (by simp; exact Sub.table (by simp) (by simp)) ?_
   refine Chain.runQ 13 fun K hK => ?_; simp; refine hK _ _ ?_; clear hK K
   refine Chain.sub (S' := mk 266 [1000, 2000] [(0, .ptr 1000 0 0), (1, .ptr 2000 0 0), (2, .d (.sl (a2.map (cI .i64)))), (7, .ptr 7 0 0), (8, .i r2), (9, .i r3), (36, .b (decide (r2 < (a1.Buffer.length : Int)))), (40, .ref 45006 0 a1.Active.length), (41, .i r1)] [(7, some (.box [.i r1])), (1000, some (.box [.ref 25000 0 a0.buffer.length, .ref 25001 0 a0.disk.length, .ref 25002 0 a0.log.length, .i a0.flushed, .i a0.lastID, .ref 25005 0 a0.active.length, .ref 25006 0 a0.writer.length])), (2000, some (.box [.ref 45000 0 a1.Buffer.length, .ref 45001 0 a1.Disk.length, .ref 45002 0 a1.DiskLSN.length, .ref 45003 0 a1.Log.length, .i a1.Flushed, .i a1.LastID, .ref 45006 0 a1.Active.length])), (25000, R78 a0.buffer), (25001, R78 a0.disk), (25002, R80 a0.log), (25005, R3 a0.active), (25006, R3 a0.writer), (45000, R3 a1.Buffer), (45001, R3 a1.Disk), (45002, R3 a1.DiskLSN), (45003, R84 a1.Log), (45006, R3 a1.Active)]) Sub.tt ?_
   replace h := bsome h; obtain ⟨r10, hr10, h⟩ := h
   refine Chain.callL (d := 42) (p24 N a1.Active r1 r10 hr10) (by simp) rfl rfl (by simp <;> rfl) (by simp <;> rfl) ent24 (by simp <;> rfl) ?_
   refine Chain.sub (S' := mk 266 [1000, 2000] [(0, .ptr 1000 0 0), (1, .ptr 2000 0 0), (2, .d (.sl (a2.map (cI .i64)))), (7, .ptr 7 0 0), (8, .i r2), (9, .i r3), (36, .b (decide (r2 < (a1.Buffer.length : Int)))), (40, .ref 45006 0 a1.Active.length), (41, .i r1), (42, .b r10)] [(7, some (.box [.i r1])), (1000, some (.box [.ref 25000 0 a0.buffer.length, .ref 25001 0 a0.disk.length, .ref 25002 0 a0.log.length, .i a0.flushed, .i a0.lastID, .ref 25005 0 a0.active.length, .ref 25006 0 a0.writer.length])), (2000, some (.box [.ref 45000 0 a1.Buffer.length, .ref 45001 0 a1.Disk.length, .ref 45002 0 a1.DiskLSN.length, .ref 45003 0 a1.Log.length, .i a1.Flushed, .i a1.LastID, .ref 45006 0 a1.Active.length])), (25000, R78 a0.buffer), (25001, R78 a0.disk), (25002, R80 a0.log), (25005, R3 a0.active), (25006, R3 a0.writer), (45000, R3 a1.Buffer), (45001, R3 a1.Disk), (45002, R3 a1.DiskLSN), (45003, R84 a1.Log), (45006, R3 a1.Active)]) (by simp; exact Sub.table (by simp) (by simp)) ?_
   refine Chain.runQ 2 fun K hK => ?_; simp; refine hK _ _ ?_; clear hK K
   refine Chain.sub (S' := mk 266 [1000, 2000] [(0, .ptr 1000 0 0), (1, .ptr 2000 0 0), (2, .d (.sl (a2.map (cI .i64)))), (7, .ptr 7 0 0), (8, .i r2), (9, .i r3), (10, .b (decide (r2 < (a1.Buffer.length : Int)))), (11, .b r10)] [(7, some (.box [.i r1])), (1000, some (.box [.ref 25000 0 a0.buffer.length, .ref 25001 0 a0.disk.length, .ref 25002 0 a0.log.length, .i a0.flushed, .i a0.lastID, .ref 25005 0 a0.active.length, .ref 25006 0 a0.writer.length])), (2000, some (.box [.ref 45000 0 a1.Buffer.length, .ref 45001 0 a1.Disk.length, .ref 45002 0 a1.DiskLSN.length, .ref 45003 0 a1.Log.length, .i a1.Flushed, .i a1.LastID, .ref 45006 0 a1.Active.length])), (25000, R78 a0.buffer), (25001, R78 a0.disk), (25002, R80 a0.log), (25005, R3 a0.active), (25006, R3 a0.writer), (45000, R3 a1.Buffer), (45001, R3 a1.Disk), (45002, R3 a1.DiskLSN), (45003, R84 a1.Log), (45006, R3 a1.Active)]) Sub.tt ?_
   cases h
   exact Chain.nil Sub.tt
  ·have c9_ : decide (r2 ≥ 0) = false := decide_eq_false c9
   refine Chain.sub (Sub.bool 28 (b := decide (r2 ≥ 0)) rfl c9_) ?_
   refine Chain.sub (S' := mk 266 [1000, 2000] [(0, .ptr 1000 0 0), (1, .ptr 2000 0 0), (2, .d (.sl (a2.map (cI .i64)))), (7, .ptr 7 0 0), (8, .i r2), (9, .i r3), (28, .b false)] [(7, some (.box [.i r1])), (1000, some (.box [.ref 25000 0 a0.buffer.length, .ref 25001 0 a0.disk.length, .ref 25002 0 a0.log.length, .i a0.flushed, .i a0.lastID, .ref 25005 0 a0.active.length, .ref 25006 0 a0.writer.length])), (2000, some (.box [.ref 45000 0 a1.Buffer.length, .ref 45001 0 a1.Disk.length, .ref 45002 0 a1.DiskLSN.length, .ref 45003 0 a1.Log.length, .i a1.Flushed, .i a1.LastID, .ref 45006 0 a1.Active.length])), (25000, R78 a0.buffer), (25001, R78 a0.disk), (25002, R80 a0.log), (25005, R3 a0.active), (25006, R3 a0.writer), (45000, R3 a1.Buffer), (45001, R3 a1.Disk), (45002, R3 a1.DiskLSN), (45003, R84 a1.Log), (45006, R3 a1.Active)]) (by simp; exact Sub.table (by simp) (by simp)) ?_
   refine Chain.runQ 13 fun K hK => ?_; simp; refine hK _ _ ?_; clear hK K
   refine Chain.sub (S' := mk 266 [1000, 2000] [(0, .ptr 1000 0 0), (1, .ptr 2000 0 0), (2, .d (.sl (a2.map (cI .i64)))), (7, .ptr 7 0 0), (8, .i r2), (9, .i r3), (36, .b false), (40, .ref 45006 0 a1.Active.length), (41, .i r1)] [(7, some (.box [.i r1])), (1000, some (.box [.ref 25000 0 a0.buffer.length, .ref 25001 0 a0.disk.length, .ref 25002 0 a0.log.length, .i a0.flushed, .i a0.lastID, .ref 25005 0 a0.active.length, .ref 25006 0 a0.writer.length])), (2000, some (.box [.ref 45000 0 a1.Buffer.length, .ref 45001 0 a1.Disk.length, .ref 45002 0 a1.DiskLSN.length, .ref 45003 0 a1.Log.length, .i a1.Flushed, .i a1.LastID, .ref 45006 0 a1.Active.length])), (25000, R78 a0.buffer), (25001, R78 a0.disk), (25002, R80 a0.log), (25005, R3 a0.active), (25006, R3 a0.writer), (45000, R3 a1.Buffer), (45001, R3 a1.Disk), (45002, R3 a1.DiskLSN), (45003, R84 a1.Log), (45006, R3 a1.Active)]) Sub.tt ?_
   replace h := bsome h; obtain ⟨r11, hr11, h⟩ := h
   refine Chain.callL (d := 42) (p24 N a1.Active r1 r11 hr11) (by simp) rfl rfl (by simp <;> rfl) (by simp <;> rfl) ent24 (by simp <;> rfl) ?_
   refine Chain.sub (S' := mk 266 [1000, 2000] [(0, .ptr 1000 0 0), (1, .ptr 2000 0 0), (2, .d (.sl (a2.map (cI .i64)))), (7, .ptr 7 0 0), (8, .i r2), (9, .i r3), (36, .b false), (40, .ref 45006 0 a1.Active.length), (41, .i r1), (42, .b r11)] [(7, some (.box [.i r1])), (1000, some (.box [.ref 25000 0 a0.buffer.length, .ref 25001 0 a0.disk.length, .ref 25002 0 a0.log.length, .i a0.flushed, .i a0.lastID, .ref 25005 0 a0.active.length, .ref 25006 0 a0.writer.length])), (2000, some (.box [.ref 45000 0 a1.Buffer.length, .ref 45001 0 a1.Disk.length, .ref 45002 0 a1.DiskLSN.length, .ref 45003 0 a1.Log.length, .i a1.Flushed, .i a1.LastID, .ref 45006 0 a1.Active.length])), (25000, R78 a0.buffer), (25001, R78 a0.disk), (25002, R80 a0.log), (25005, R3 a0.active), (25006, R3 a0.writer), (45000, R3 a1.Buffer), (45001, R3 a1.Disk), (45002, R3 a1.DiskLSN), (45003, R84 a1.Log), (45006, R3 a1.Active)]) (by simp; exact Sub.table (by simp) (by simp)) ?_
   refine Chain.runQ 2 fun K hK => ?_; simp; refine hK _ _ ?_; clear hK K
   refine Chain.sub (S' := mk 266 [1000, 2000] [(0, .ptr 1000 0 0), (1, .ptr 2000 0 0), (2, .d (.sl (a2.map (cI .i64)))), (7, .ptr 7 0 0), (8, .i r2), (9, .i r3), (10, .b false), (11, .b r11)] [(7, some (.box [.i r1])), (1000, some (.box [.ref 25000 0 a0.buffer.length, .ref 25001 0 a0.disk.length, .ref 25002 0 a0.log.length, .i a0.flushed, .i a0.lastID, .ref 25005 0 a0.active.length, .ref 25006 0 a0.writer.length])), (2000, some (.box [.ref 45000 0 a1.Buffer.length, .ref 45001 0 a1.Disk.length, .ref 45002 0 a1.DiskLSN.length, .ref 45003 0 a1.Log.length, .i a1.Flushed, .i a1.LastID, .ref 45006 0 a1.Active.length])), (25000, R78 a0.buffer), (25001, R78 a0.disk), (25002, R80 a0.log), (25005, R3 a0.active), (25006, R3 a0.writer), (45000, R3 a1.Buffer), (45001, R3 a1.Disk), (45002, R3 a1.DiskLSN), (45003, R84 a1.Log), (45006, R3 a1.Active)]) Sub.tt ?_
   cases h
   exact Chain.nil Sub.tt
 ·clear hj
  refine AW.seqR ?_
  refine Chain.runK [] 2 fun K hK => ?_; simp; refine hK _ _ ?_; clear hK K
  refine Chain.sub (S' := mk 266 [1000, 2000] [(0, .ptr 1000 0 0), (1, .ptr 2000 0 0), (2, .d (.sl (a2.map (cI .i64)))), (7, .ptr 7 0 0), (8, .i r2), (9, .i r3), (10, .b v7), (11, .b v8), (12, .i 0), (13, .i 0)] [(7, some (.box [.i r1])), (1000, some (.box [.ref 25000 0 a0.buffer.length, .ref 25001 0 a0.disk.length, .ref 25002 0 a0.log.length, .i a0.flushed, .i a0.lastID, .ref 25005 0 a0.active.length, .ref 25006 0 a0.writer.length])), (2000, some (.box [.ref 45000 0 a1.Buffer.length, .ref 45001 0 a1.Disk.length, .ref 45002 0 a1.DiskLSN.length, .ref 45003 0 a1.Log.length, .i a1.Flushed, .i a1.LastID, .ref 45006 0 a1.Active.length])), (25000, R78 a0.buffer), (25001, R78 a0.disk), (25002, R80 a0.log), (25005, R3 a0.active), (25006, R3 a0.writer), (45000, R3 a1.Buffer), (45001, R3 a1.Disk), (45002, R3 a1.DiskLSN), (45003, R84 a1.Log), (45006, R3 a1.Active)]) Sub.tt ?_
  refine Chain.nil ?_
  refine AW.seq ?_
  refine AW.seqR ?_
  refine Chain.runK [] 1 fun K hK => ?_; simp; refine hK _ _ ?_; clear hK K
  refine Chain.sub (S' := mk 266 [1000, 2000] [(0, .ptr 1000 0 0), (1, .ptr 2000 0 0), (2, .d (.sl (a2.map (cI .i64)))), (7, .ptr 7 0 0), (8, .i r2), (9, .i r3), (10, .b v7), (11, .b v8), (12, .i 0), (13, .i 0), (43, .d (.sl (a2.map (cI .i64))))] [(7, some (.box [.i r1])), (1000, some (.box [.ref 25000 0 a0.buffer.length, .ref 25001 0 a0.disk.length, .ref 25002 0 a0.log.length, .i a0.flushed, .i a0.lastID, .ref 25005 0 a0.active.length, .ref 25006 0 a0.writer.length])), (2000, some (.box [.ref 45000 0 a1.Buffer.length, .ref 45001 0 a1.Disk.length, .ref 45002 0 a1.DiskLSN.length, .ref 45003 0 a1.Log.length, .i a1.Flushed, .i a1.LastID, .ref 45006 0 a1.Active.length])), (25000, R78 a0.buffer), (25001, R78 a0.disk), (25002, R80 a0.log), (25005, R3 a0.active), (25006, R3 a0.writer), (45000, R3 a1.Buffer), (45001, R3 a1.Disk), (45002, R3 a1.DiskLSN), (45003, R84 a1.Log), (45006, R3 a1.Active)]) Sub.tt ?_
  replace h := bsome h; obtain ⟨r12, hr12, h⟩ := h
  refine Chain.callL (d := 44) (p9 N a2 0 r12 hr12) (by simp) rfl rfl (by simp <;> rfl) (by simp <;> rfl) ent9 (by simp <;> rfl) ?_
  refine Chain.sub (S' := mk 266 [1000, 2000] [(0, .ptr 1000 0 0), (1, .ptr 2000 0 0), (2, .d (.sl (a2.map (cI .i64)))), (7, .ptr 7 0 0), (8, .i r2), (9, .i r3), (10, .b v7), (11, .b v8), (12, .i 0), (13, .i 0), (43, .d (.sl (a2.map (cI .i64)))), (44, .i r12)] [(7, some (.box [.i r1])), (1000, some (.box [.ref 25000 0 a0.buffer.length, .ref 25001 0 a0.disk.length, .ref 25002 0 a0.log.length, .i a0.flushed, .i a0.lastID, .ref 25005 0 a0.active.length, .ref 25006 0 a0.writer.length])), (2000, some (.box [.ref 45000 0 a1.Buffer.length, .ref 45001 0 a1.Disk.length, .ref 45002 0 a1.DiskLSN.length, .ref 45003 0 a1.Log.length, .i a1.Flushed, .i a1.LastID, .ref 45006 0 a1.Active.length])), (25000, R78 a0.buffer), (25001, R78 a0.disk), (25002, R80 a0.log), (25005, R3 a0.active), (25006, R3 a0.writer), (45000, R3 a1.Buffer), (45001, R3 a1.Disk), (45002, R3 a1.DiskLSN), (45003, R84 a1.Log), (45006, R3 a1.Active)]) (by simp; exact Sub.table (by simp) (by simp)) ?_
  refine Chain.nil ?_
  refine AW.block ?_
  refine AW.seqR ?_
  refine Chain.runK [] 2 fun K hK => ?_; simp; refine hK _ _ ?_; clear hK K
  refine Chain.sub (S' := mk 266 [1000, 2000] [(0, .ptr 1000 0 0), (1, .ptr 2000 0 0), (2, .d (.sl (a2.map (cI .i64)))), (7, .ptr 7 0 0), (8, .i r2), (9, .i r3), (10, .b v7), (11, .b v8), (12, .i 0), (13, .i 0), (44, .i r12), (45, .b (r12 == 1))] [(7, some (.box [.i r1])), (1000, some (.box [.ref 25000 0 a0.buffer.length, .ref 25001 0 a0.disk.length, .ref 25002 0 a0.log.length, .i a0.flushed, .i a0.lastID, .ref 25005 0 a0.active.length, .ref 25006 0 a0.writer.length])), (2000, some (.box [.ref 45000 0 a1.Buffer.length, .ref 45001 0 a1.Disk.length, .ref 45002 0 a1.DiskLSN.length, .ref 45003 0 a1.Log.length, .i a1.Flushed, .i a1.LastID, .ref 45006 0 a1.Active.length])), (25000, R78 a0.buffer), (25001, R78 a0.disk), (25002, R80 a0.log), (25005, R3 a0.active), (25006, R3 a0.writer), (45000, R3 a1.Buffer), (45001, R3 a1.Disk), (45002, R3 a1.DiskLSN), (45003, R84 a1.Log), (45006, R3 a1.Active)]) Sub.tt ?_
  refine Chain.nil ?_
  replace h := isome h; rcases h with ⟨c13, h⟩ | ⟨c13, h⟩
  ·have c13_ : (r12 == 1) = true := c13
   refine AW.condT (b := (r12 == 1)) rfl c13_ ?_
   refine AW.sub (Sub.bool 45 (b := (r12 == 1)) rfl c13_) ?_
   refine AW.sub (S' := mk 266 [1000, 2000] [(0, .ptr 1000 0 0), (1, .ptr 2000 0 0), (2, .d (.sl (a2.map (cI .i64)))), (7, .ptr 7 0 0), (8, .i r2), (9, .i r3), (10, .b v7), (11, .b v8), (12, .i 0), (13, .i 0), (44, .i r12), (45, .b true)] [(7, some (.box [.i r1])), (1000, some (.box [.ref 25000 0 a0.buffer.length, .ref 25001 0 a0.disk.length, .ref 25002 0 a0.log.length, .i a0.flushed, .i a0.lastID, .ref 25005 0 a0.active.length, .ref 25006 0 a0.writer.length])), (2000, some (.box [.ref 45000 0 a1.Buffer.length, .ref 45001 0 a1.Disk.length, .ref 45002 0 a1.DiskLSN.length, .ref 45003 0 a1.Log.length, .i a1.Flushed, .i a1.LastID, .ref 45006 0 a1.Active.length])), (25000, R78 a0.buffer), (25001, R78 a0.disk), (25002, R80 a0.log), (25005, R3 a0.active), (25006, R3 a0.writer), (45000, R3 a1.Buffer), (45001, R3 a1.Disk), (45002, R3 a1.DiskLSN), (45003, R84 a1.Log), (45006, R3 a1.Active)]) (by simp; exact Sub.table (by simp) (by simp)) ?_
   refine AW.seqR ?_
   refine Chain.runK [] 1 fun K hK => ?_; simp; refine hK _ _ ?_; clear hK K
   refine Chain.sub (S' := mk 266 [1000, 2000] [(1, .ptr 2000 0 0), (48, .ptr 1000 0 0)] [(1000, some (.box [.ref 25000 0 a0.buffer.length, .ref 25001 0 a0.disk.length, .ref 25002 0 a0.log.length, .i a0.flushed, .i a0.lastID, .ref 25005 0 a0.active.length, .ref 25006 0 a0.writer.length])), (2000, some (.box [.ref 45000 0 a1.Buffer.length, .ref 45001 0 a1.Disk.length, .ref 45002 0 a1.DiskLSN.length, .ref 45003 0 a1.Log.length, .i a1.Flushed, .i a1.LastID, .ref 45006 0 a1.Active.length])), (25000, R78 a0.buffer), (25001, R78 a0.disk), (25002, R80 a0.log), (25005, R3 a0.active), (25006, R3 a0.writer), (45000, R3 a1.Buffer), (45001, R3 a1.Disk), (45002, R3 a1.DiskLSN), (45003, R84 a1.Log), (45006, R3 a1.Active)]) Sub.tt ?_
   replace h := bsome h; obtain ⟨r14, hr14, h⟩ := h
   refine Chain.callF (p19 N a0 r14 hr14) [(1000, 1000), (25000, 25000), (25001, 25001), (25002, 25002), (25005, 25005), (25006, 25006)] [1000] [(1000, 1000), (25000, 25000), (25001, 25001), (25002, 25002), (25005, 25005), (25006, 25006)] [(1000, (.box [.ref 25000 0 r14.1.buffer.length, .ref 25001 0 r14.1.disk.length, .ref 25002 0 r14.1.log.length, .d (.lit (.int .i64 r14.1.flushed)), .d (.lit (.int .i64 r14.1.lastID)), .ref 25005 0 r14.1.active.length, .ref 25006 0 r14.1.writer.length])), (25000, (.arr 78 2 (r14.1.buffer.map cS78))), (25001, (.arr 78 2 (r14.1.disk.map cS78))), (25002, (.arr 80 5 (r14.1.log.map cS80))), (25005, (.arr 3 1 (r14.1.active.map (cI .i64)))), (25006, (.arr 3 1 (r14.1.writer.map (cI .i64))))] (.tup [.d (.lit (.int .i64 r14.2.1)), .d (.lit (.int .i64 r14.2.2))]) (by simp) rfl (by simp <;> rfl) (by simp) (by simp) (by simp) (by simp) (by simp) ent19 (by simp) (by simp) (by simp) (by simp) (by simp) (by simp) ?_
   refine Chain.sub (S' := mk 266 [1000, 2000] [(1, .ptr 2000 0 0), (48, .ptr 1000 0 0), (49, .tup [.i r14.2.1, .i r14.2.2])] [(1000, some (.box [.ref 25000 0 r14.1.buffer.length, .ref 25001 0 r14.1.disk.length, .ref 25002 0 r14.1.log.length, .i r14.1.flushed, .i r14.1.lastID, .ref 25005 0 r14.1.active.length, .ref 25006 0 r14.1.writer.length])), (2000, some (.box [.ref 45000 0 a1.Buffer.length, .ref 45001 0 a1.Disk.length, .ref 45002 0 a1.DiskLSN.length, .ref 45003 0 a1.Log.length, .i a1.Flushed, .i a1.LastID, .ref 45006 0 a1.Active.length])), (25000, R78 r14.1.buffer), (25001, R78 r14.1.disk), (25002, R80 r14.1.log), (25005, R3 r14.1.active), (25006, R3 r14.1.writer), (45000, R3 a1.Buffer), (45001, R3 a1.Disk), (45002, R3 a1.DiskLSN), (45003, R84 a1.Log), (45006, R3 a1.Active)]) (by simp; exact Sub.table (by simp) (by simp)) ?_
   refine Chain.runK [] 5 fun K hK => ?_; simp; refine hK _ _ ?_; clear hK K
   refine Chain.sub (S' := mk 266 [1000, 2000] [(1, .ptr 2000 0 0), (14, .i r14.2.1), (15, .i r14.2.2)] [(1000, some (.box [.ref 25000 0 r14.1.buffer.length, .ref 25001 0 r14.1.disk.length, .ref 25002 0 r14.1.log.length, .i r14.1.flushed, .i r14.1.lastID, .ref 25005 0 r14.1.active.length, .ref 25006 0 r14.1.writer.length])), (2000, some (.box [.ref 45000 0 a1.Buffer.length, .ref 45001 0 a1.Disk.length, .ref 45002 0 a1.DiskLSN.length, .ref 45003 0 a1.Log.length, .i a1.Flushed, .i a1.LastID, .ref 45006 0 a1.Active.length])), (25000, R78 r14.1.buffer), (25001, R78 r14.1.disk), (25002, R80 r14.1.log), (25005, R3 r14.1.active), (25006, R3 r14.1.writer), (45000, R3 a1.Buffer), (45001, R3 a1.Disk), (45002, R3 a1.DiskLSN), (45003, R84 a1.Log), (45006, R3 a1.Active)]) Sub.tt ?_
   refine Chain.nil ?_
   refine AW.seqR ?_
   refine Chain.runK [] 2 fun K hK => ?_; simp; refine hK _ _ ?_; clear hK K
   refine Chain.sub (S' := mk 266 [1000, 2000] [(1, .ptr 2000 0 0), (12, .i r14.2.2), (14, .i r14.2.1), (15, .i r14.2.2)] [(1000, some (.box [.ref 25000 0 r14.1.buffer.length, .ref 25001 0 r14.1.disk.length, .ref 25002 0 r14.1.log.length, .i r14.1.flushed, .i r14.1.lastID, .ref 25005 0 r14.1.active.length, .ref 25006 0 r14.1.writer.length])), (2000, some (.box [.ref 45000 0 a1.Buffer.length, .ref 45001 0 a1.Disk.length, .ref 45002 0 a1.DiskLSN.length, .ref 45003 0 a1.Log.length, .i a1.Flushed, .i a1.LastID, .ref 45006 0 a1.Active.length])), (25000, R78 r14.1.buffer), (25001, R78 r14.1.disk), (25002, R80 r14.1.log), (25005, R3 r14.1.active), (25006, R3 r14.1.writer), (45000, R3 a1.Buffer), (45001, R3 a1.Disk), (45002, R3 a1.DiskLSN), (45003, R84 a1.Log), (45006, R3 a1.Active)]) Sub.tt ?_
   refine Chain.nil ?_
   refine AW.seqR ?_
   refine Chain.runK [] 1 fun K hK => ?_; simp; refine hK _ _ ?_; clear hK K
   refine Chain.sub (S' := mk 266 [1000, 2000] [(1, .ptr 2000 0 0), (12, .i r14.2.2), (13, .i 18), (14, .i r14.2.1), (15, .i r14.2.2)] [(1000, some (.box [.ref 25000 0 r14.1.buffer.length, .ref 25001 0 r14.1.disk.length, .ref 25002 0 r14.1.log.length, .i r14.1.flushed, .i r14.1.lastID, .ref 25005 0 r14.1.active.length, .ref 25006 0 r14.1.writer.length])), (2000, some (.box [.ref 45000 0 a1.Buffer.length, .ref 45001 0 a1.Disk.length, .ref 45002 0 a1.DiskLSN.length, .ref 45003 0 a1.Log.length, .i a1.Flushed, .i a1.LastID, .ref 45006 0 a1.Active.length])), (25000, R78 r14.1.buffer), (25001, R78 r14.1.disk), (25002, R80 r14.1.log), (25005, R3 r14.1.active), (25006, R3 r14.1.writer), (45000, R3 a1.Buffer), (45001, R3 a1.Disk), (45002, R3 a1.DiskLSN), (45003, R84 a1.Log), (45006, R3 a1.Active)]) Sub.tt ?_
   refine Chain.nil ?_
   refine AW.seqR ?_
   refine Chain.runK [] 6 fun K hK => ?_; simp; refine hK _ _ ?_; clear hK K
   refine Chain.sub (S' := mk 266 [1000, 2000] [(1, .ptr 2000 0 0), (12, .i r14.2.2), (13, .i 18), (14, .i r14.2.1), (15, .i r14.2.2), (58, .b (decide ((a1.Active.length : Int) < 10)))] [(1000, some (.box [.ref 25000 0 r14.1.buffer.length, .ref 25001 0 r14.1.disk.length, .ref 25002 0 r14.1.log.length, .i r14.1.flushed, .i r14.1.lastID, .ref 25005 0 r14.1.active.length, .ref 25006 0 r14.1.writer.length])), (2000, some (.box [.ref 45000 0 a1.Buffer.length, .ref 45001 0 a1.Disk.length, .ref 45002 0 a1.DiskLSN.length, .ref 45003 0 a1.Log.length, .i a1.Flushed, .i a1.LastID, .ref 45006 0 a1.Active.length])), (25000, R78 r14.1.buffer), (25001, R78 r14.1.disk), (25002, R80 r14.1.log), (25005, R3 r14.1.active), (25006, R3 r14.1.writer), (45000, R3 a1.Buffer), (45001, R3 a1.Disk), (45002, R3 a1.DiskLSN), (45003, R84 a1.Log), (45006, R3 a1.Active)]) Sub.tt ?_
   refine Chain.nil ?_
   replace h := isome h; rcases h with ⟨c15, h⟩ | ⟨c15, h⟩
   ·have c15_ : decide ((a1.Active.length : Int) < 10) = true := decide_eq_true c15
    refine AW.condT (b := decide ((a1.Active.length : Int) < 10)) rfl c15_ ?_
    refine AW.sub (Sub.bool 58 (b := decide ((a1.Active.length : Int) < 10)) rfl c15_) ?_
    refine AW.sub (S' := mk 266 [1000, 2000] [(1, .ptr 2000 0 0), (12, .i r14.2.2), (13, .i 18), (14, .i r14.2.1), (15, .i r14.2.2), (58, .b true)] [(1000, some (.box [.ref 25000 0 r14.1.buffer.length, .ref 25001 0 r14.1.disk.length, .ref 25002 0 r14.1.log.length, .i r14.1.flushed, .i r14.1.lastID, .ref 25005 0 r14.1.active.length, .ref 25006 0 r14.1.writer.length])), (2000, some (.box [.ref 45000 0 a1.Buffer.length, .ref 45001 0 a1.Disk.length, .ref 45002 0 a1.DiskLSN.length, .ref 45003 0 a1.Log.length, .i a1.Flushed, .i a1.LastID, .ref 45006 0 a1.Active.length])), (25000, R78 r14.1.buffer), (25001, R78 r14.1.disk), (25002, R80 r14.1.log), (25005, R3 r14.1.active), (25006, R3 r14.1.writer), (45000, R3 a1.Buffer), (45001, R3 a1.Disk), (45002, R3 a1.DiskLSN), (45003, R84 a1.Log), (45006, R3 a1.Active)]) (by simp; exact Sub.table (by simp) (by simp)) ?_
    refine AW.seqR ?_
    refine Chain.runK [] 1 fun K hK => ?_; simp; refine hK _ _ ?_; clear hK K
    refine Chain.sub (S' := mk 266 [1000, 2000] [(1, .ptr 2000 0 0), (13, .i 0), (14, .i r14.2.1), (15, .i r14.2.2)] [(1000, some (.box [.ref 25000 0 r14.1.buffer.length, .ref 25001 0 r14.1.disk.length, .ref 25002 0 r14.1.log.length, .i r14.1.flushed, .i r14.1.lastID, .ref 25005 0 r14.1.active.length, .ref 25006 0 r14.1.writer.length])), (2000, some (.box [.ref 45000 0 a1.Buffer.length, .ref 45001 0 a1.Disk.length, .ref 45002 0 a1.DiskLSN.length, .ref 45003 0 a1.Log.length, .i a1.Flushed, .i a1.LastID, .ref 45006 0 a1.Active.length])), (25000, R78 r14.1.buffer), (25001, R78 r14.1.disk), (25002, R80 r14.1.log), (25005, R3 r14.1.active), (25006, R3 r14.1.writer), (45000, R3 a1.Buffer), (45001, R3 a1.Disk), (45002, R3 a1.DiskLSN), (45003, R84 a1.Log), (45006, R3 a1.Active)]) Sub.tt ?_
    refine Chain.nil ?_
    refine AW.seqR ?_
    replace h := bsome h; obtain ⟨v16, hv16, h⟩ := h
    have hv16 := chkI_some hv16
    refine Chain.runK [] 8 fun K hK => ?_; simp [hv16]; refine hK _ _ ?_; clear hK K
    refine Chain.sub (S' := mk 266 [1000, 2000] [(1, .ptr 2000 0 0), (13, .i 0), (14, .i r14.2.1), (15, .i r14.2.2)] [(1000, some (.box [.ref 25000 0 r14.1.buffer.length, .ref 25001 0 r14.1.disk.length, .ref 25002 0 r14.1.log.length, .i r14.1.flushed, .i r14.1.lastID, .ref 25005 0 r14.1.active.length, .ref 25006 0 r14.1.writer.length])), (2000, some (.box [.ref 45000 0 a1.Buffer.length, .ref 45001 0 a1.Disk.length, .ref 45002 0 a1.DiskLSN.length, .ref 45003 0 a1.Log.length, .i a1.Flushed, .i v16, .ref 45006 0 a1.Active.length])), (25000, R78 r14.1.buffer), (25001, R78 r14.1.disk), (25002, R80 r14.1.log), (25005, R3 r14.1.active), (25006, R3 r14.1.writer), (45000, R3 a1.Buffer), (45001, R3 a1.Disk), (45002, R3 a1.DiskLSN), (45003, R84 a1.Log), (45006, R3 a1.Active)]) Sub.tt ?_
    refine Chain.nil ?_
    replace h := bsome h; obtain ⟨l17, hl17, h⟩ := h
    obtain ⟨hl17a, hl17⟩ := appL_some hl17
    subst hl17
    try simp only [List.length_cons, List.length_nil, Nat.zero_add] at hl17a
    refine AW.seqAnyS [[], [], [1], [1, 2], [1, 2, 3], [], [5], [5, 6], [5, 6, 7], [5, 6, 7, 8], [1, 2, 3, 4, 5, 6, 7, 8, 9], [0, 1, 2, 3, 4, 5, 6, 7, 8, 9, 10], [0, 1, 2, 3, 4, 5, 6, 7, 8, 9, 10, 11], [0, 1, 2, 3, 4, 5, 6, 7, 8, 9, 10, 11, 12]] (fun (b : Nat → Bool) => mk 266 [1000, 2000] [(1, .ptr 2000 0 0), (13, .i 0), (14, .i r14.2.1), (15, .i r14.2.2), (66, (if b 0 then .ptr 2000 0 0 else .junk)), (67, (if b 1 then .ptr 2000 0 0 else .junk)), (68, (if b 2 then .ptr 2000 0 0 else .junk)), (69, (if b 3 then .ptr 2000 0 6 else .junk)), (70, (if b 10 then .junk else (if b 4 then .ref 45006 0 a1.Active.length else .junk))), (71, (if b 5 then .ptr 2000 0 0 else .junk)), (72, (if b 6 then .ptr 2000 0 0 else .junk)), (73, (if b 7 then .ptr 2000 0 5 else .junk)), (74, (if b 8 then .i v16 else .junk)), (75, (if b 9 then .d (.sl ([v16].map (cI .i64))) else .junk)), (76, (if b 10 then .ref 45006 0 ((a1.Active ++ [v16]).length) else .junk)), (77, (if b 11 then .ptr 2000 0 0 else .junk)), (78, (if b 12 then .ptr 2000 0 6 else .junk))] [(1000, some (.box [.ref 25000 0 r14.1.buffer.length, .ref 25001 0 r14.1.disk.length, .ref 25002 0 r14.1.log.length, .i r14.1.flushed, .i r14.1.lastID, .ref 25005 0 r14.1.active.length, .ref 25006 0 r14.1.writer.length])), (2000, (if b 13 then some (.box [.ref 45000 0 a1.Buffer.length, .ref 45001 0 a1.Disk.length, .ref 45002 0 a1.DiskLSN.length, .ref 45003 0 a1.Log.length, .i a1.Flushed, .i v16, .ref 45006 0 ((a1.Active ++ [v16]).length)]) else (if b 10 then some (.box [.ref 45000 0 a1.Buffer.length, .ref 45001 0 a1.Disk.length, .ref 45002 0 a1.DiskLSN.length, .ref 45003 0 a1.Log.length, .i a1.Flushed, .i v16, .hole]) else some (.box [.ref 45000 0 a1.Buffer.length, .ref 45001 0 a1.Disk.length, .ref 45002 0 a1.DiskLSN.length, .ref 45003 0 a1.Log.length, .i a1.Flushed, .i v16, .ref 45006 0 a1.Active.length])))), (25000, R78 r14.1.buffer), (25001, R78 r14.1.disk), (25002, R80 r14.1.log), (25005, R3 r14.1.active), (25006, R3 r14.1.writer), (45000, R3 a1.Buffer), (45001, R3 a1.Disk), (45002, R3 a1.DiskLSN), (45003, R84 a1.Log), (45006, (if b 10 then R3 (a1.Active ++ [v16]) else R3 a1.Active))]) (mk 266 [1000, 2000] [(1, .ptr 2000 0 0), (13, .i 0), (14, .i r14.2.1), (15, .i r14.2.2)] [(1000, some (.box [.ref 25000 0 r14.1.buffer.length, .ref 25001 0 r14.1.disk.length, .ref 25002 0 r14.1.log.length, .i r14.1.flushed, .i r14.1.lastID, .ref 25005 0 r14.1.active.length, .ref 25006 0 r14.1.writer.length])), (2000, some (.box [.ref 45000 0 a1.Buffer.length, .ref 45001 0 a1.Disk.length, .ref 45002 0 a1.DiskLSN.length, .ref 45003 0 a1.Log.length, .i a1.Flushed, .i v16, .ref 45006 0 ((a1.Active ++ [v16]).length)])), (25000, R78 r14.1.buffer), (25001, R78 r14.1.disk), (25002, R80 r14.1.log), (25005, R3 r14.1.active), (25006, R3 r14.1.writer), (45000, R3 a1.Buffer), (45001, R3 a1.Disk), (45002, R3 a1.DiskLSN), (45003, R84 a1.Log), (45006, R3 (a1.Active ++ [v16]))]) (by kernel_rfl) (by kernel_rfl) Sub.tt (Steps.cons ?_ (Steps.cons ?_ (Steps.cons ?_ (Steps.cons ?_ (Steps.cons ?_ (Steps.cons ?_ (Steps.cons ?_ (Steps.cons ?_ (Steps.cons ?_ (Steps.cons ?_ (Steps.cons ?_ (Steps.cons ?_ (Steps.cons ?_ (Steps.cons ?_ (Steps.nil))))))))))))))) ?_ ?_
    ·intro b h0 ha hd
     have f11 : b 11 = false := hd 11 (by decide)
     have f12 : b 12 = false := hd 12 (by decide)
     have f13 : b 13 = false := hd 13 (by decide)
     refine Chain.runK [75] 1 fun K hK => ?_; simp [h0, f11, f12, f13]; refine hK _ _ ?_; clear hK K
     exact Chain.nil (Sub.table (by simp [f11, f12]) (by simp [f13]))
    ·intro b h0 ha hd
     have f2 : b 2 = false := hd 2 (by decide)
     have f3 : b 3 = false := hd 3 (by decide)
     have f4 : b 4 = false := hd 4 (by decide)
     have f10 : b 10 = false := hd 10 (by decide)
     have f11 : b 11 = false := hd 11 (by decide)
     have f12 : b 12 = false := hd 12 (by decide)
     have f13 : b 13 = false := hd 13 (by decide)
     refine Chain.runK [75] 1 fun K hK => ?_; simp [h0, f2, f3, f4, f10, f11, f12, f13]; refine hK _ _ ?_; clear hK K
     exact Chain.nil (Sub.table (by simp [f2, f3, f4, f10, f11, f12]) (by simp [f10, f13]))
    ·intro b h0 ha hd
     have t1 : b 1 = true := ha 1 (by decide)
     have f3 : b 3 = false := hd 3 (by decide)
     have f4 : b 4 = false := hd 4 (by decide)
     have f10 : b 10 = false := hd 10 (by decide)
     have f11 : b 11 = false := hd 11 (by decide)
     have f12 : b 12 = false := hd 12 (by decide)
     have f13 : b 13 = false := hd 13 (by decide)
     refine Chain.runK [75] 1 fun K hK => ?_; simp [h0, t1, f3, f4, f10, f11, f12, f13]; refine hK _ _ ?_; clear hK K
     exact Chain.nil (Sub.table (by simp [t1, f3, f4, f10, f11, f12]) (by simp [f10, f13]))
    ·intro b h0 ha hd
     have t1 : b 1 = true := ha 1 (by decide)
     have t2 : b 2 = true := ha 2 (by decide)
     have f4 : b 4 = false := hd 4 (by decide)
     have f10 : b 10 = false := hd 10 (by decide)
     have f11 : b 11 = false := hd 11 (by decide)
     have f12 : b 12 = false := hd 12 (by decide)
     have f13 : b 13 = false := hd 13 (by decide)
     refine Chain.runK [75] 1 fun K hK => ?_; simp [h0, t1, t2, f4, f10, f11, f12, f13]; refine hK _ _ ?_; clear hK K
     exact Chain.nil (Sub.table (by simp [t1, t2, f4, f10, f11, f12]) (by simp [f10, f13]))
    ·intro b h0 ha hd
     have t1 : b 1 = true := ha 1 (by decide)
     have t2 : b 2 = true := ha 2 (by decide)
     have t3 : b 3 = true := ha 3 (by decide)
     have f10 : b 10 = false := hd 10 (by decide)
     have f11 : b 11 = false := hd 11 (by decide)
     have f12 : b 12 = false := hd 12 (by decide)
     have f13 : b 13 = false := hd 13 (by decide)
     refine Chain.runK [75] 1 fun K hK => ?_; simp [h0, t1, t2, t3, f10, f11, f12, f13]; refine hK _ _ ?_; clear hK K
     exact Chain.nil (Sub.table (by simp [t1, t2, t3, f10, f11, f12]) (by simp [f10, f13]))
    ·intro b h0 ha hd
     have f6 : b 6 = false := hd 6 (by decide)
     have f7 : b 7 = false := hd 7 (by decide)
     have f8 : b 8 = false := hd 8 (by decide)
     have f9 : b 9 = false := hd 9 (by decide)
     have f10 : b 10 = false := hd 10 (by decide)
     have f11 : b 11 = false := hd 11 (by decide)
     have f12 : b 12 = false := hd 12 (by decide)
     have f13 : b 13 = false := hd 13 (by decide)
     refine Chain.runK [75] 1 fun K hK => ?_; simp [h0, f6, f7, f8, f9, f10, f11, f12, f13]; refine hK _ _ ?_; clear hK K
     exact Chain.nil (Sub.table (by simp [f6, f7, f8, f9, f10, f11, f12]) (by simp [f10, f13]))
    ·intro b h0 ha hd
     have t5 : b 5 = true := ha 5 (by decide)
     have f7 : b 7 = false := hd 7 (by decide)
     have f8 : b 8 = false := hd 8 (by decide)
     have f9 : b 9 = false := hd 9 (by decide)
     have f10 : b 10 = false := hd 10 (by decide)
     have f11 : b 11 = false := hd 11 (by decide)
     have f12 : b 12 = false := hd 12 (by decide)
     have f13 : b 13 = false := hd 13 (by decide)
     refine Chain.runK [75] 1 fun K hK => ?_; simp [h0, t5, f7, f8, f9, f10, f11, f12, f13]; refine hK _ _ ?_; clear hK K
     exact Chain.nil (Sub.table (by simp [t5, f7, f8, f9, f10, f11, f12]) (by simp [f10, f13]))
    ·intro b h0 ha hd
     have t5 : b 5 = true := ha 5 (by decide)
     have t6 : b 6 = true := ha 6 (by decide)
     have f8 : b 8 = false := hd 8 (by decide)
     have f9 : b 9 = false := hd 9 (by decide)
     have f10 : b 10 = false := hd 10 (by decide)
     have f11 : b 11 = false := hd 11 (by decide)
     have f12 : b 12 = false := hd 12 (by decide)
     have f13 : b 13 = false := hd 13 (by decide)
     refine Chain.runK [75] 1 fun K hK => ?_; simp [h0, t5, t6, f8, f9, f10, f11, f12, f13]; refine hK _ _ ?_; clear hK K
     exact Chain.nil (Sub.table (by simp [t5, t6, f8, f9, f10, f11, f12]) (by simp [f10, f13]))
    ·intro b h0 ha hd
     have t5 : b 5 = true := ha 5 (by decide)
     have t6 : b 6 = true := ha 6 (by decide)
     have t7 : b 7 = true := ha 7 (by decide)
     have f9 : b 9 = false := hd 9 (by decide)
     have f10 : b 10 = false := hd 10 (by decide)
     have f11 : b 11 = false := hd 11 (by decide)
     have f12 : b 12 = false := hd 12 (by decide)
     have f13 : b 13 = false := hd 13 (by decide)
     refine Chain.runK [75] 1 fun K hK => ?_; simp [h0, t5, t6, t7, f9, f10, f11, f12, f13]; refine hK _ _ ?_; clear hK K
     exact Chain.nil (Sub.table (by simp [t5, t6, t7, f9, f10, f11, f12]) (by simp [f10, f13]))
    ·intro b h0 ha hd
     have t5 : b 5 = true := ha 5 (by decide)
     have t6 : b 6 = true := ha 6 (by decide)
     have t7 : b 7 = true := ha 7 (by decide)
     have t8 : b 8 = true := ha 8 (by decide)
     have f10 : b 10 = false := hd 10 (by decide)
     have f11 : b 11 = false := hd 11 (by decide)
     have f12 : b 12 = false := hd 12 (by decide)
     have f13 : b 13 = false := hd 13 (by decide)
     refine Chain.runK [75] 1 fun K hK => ?_; simp [h0, t5, t6, t7, t8, f10, f11, f12, f13]; refine hK _ _ ?_; clear hK K
     exact Chain.nil (Sub.table (by simp [t5, t6, t7, t8, f10, f11, f12]) (by simp [f10, f13]))
    ·intro b h0 ha hd
     have t1 : b 1 = true := ha 1 (by decide)
     have t2 : b 2 = true := ha 2 (by decide)
     have t3 : b 3 = true := ha 3 (by decide)
     have t4 : b 4 = true := ha 4 (by decide)
     have t5 : b 5 = true := ha 5 (by decide)
     have t6 : b 6 = true := ha 6 (by decide)
     have t7 : b 7 = true := ha 7 (by decide)
     have t8 : b 8 = true := ha 8 (by decide)
     have t9 : b 9 = true := ha 9 (by decide)
     have f11 : b 11 = false := hd 11 (by decide)
     have f12 : b 12 = false := hd 12 (by decide)
     have f13 : b 13 = false := hd 13 (by decide)
     refine Chain.runK [75] 1 fun K hK => ?_; simp [h0, t1, t2, t3, t4, t5, t6, t7, t8, t9, f11, f12, f13, hl17a]; refine hK _ _ ?_; clear hK K
     exact Chain.nil (Sub.table (by simp [t1, t2, t3, t5, t6, t7, t8, t9, f11, f12]) (by simp [f13]))
    ·intro b h0 ha hd
     have t0 : b 0 = true := ha 0 (by decide)
     have t1 : b 1 = true := ha 1 (by decide)
     have t2 : b 2 = true := ha 2 (by decide)
     have t3 : b 3 = true := ha 3 (by decide)
     have t4 : b 4 = true := ha 4 (by decide)
     have t5 : b 5 = true := ha 5 (by decide)
     have t6 : b 6 = true := ha 6 (by decide)
     have t7 : b 7 = true := ha 7 (by decide)
     have t8 : b 8 = true := ha 8 (by decide)
     have t9 : b 9 = true := ha 9 (by decide)
     have t10 : b 10 = true := ha 10 (by decide)
     have f12 : b 12 = false := hd 12 (by decide)
     have f13 : b 13 = false := hd 13 (by decide)
     refine Chain.runK [75] 1 fun K hK => ?_; simp [h0, t0, t1, t2, t3, t5, t6, t7, t8, t9, t10, f12, f13]; refine hK _ _ ?_; clear hK K
     exact Chain.nil (Sub.table (by simp [t0, t1, t2, t3, t5, t6, t7, t8, t9, t10, f12]) (by simp [t10, f13]))
    ·intro b h0 ha hd
     have t0 : b 0 = true := ha 0 (by decide)
     have t1 : b 1 = true := ha 1 (by decide)
     have t2 : b 2 = true := ha 2 (by decide)
     have t3 : b 3 = true := ha 3 (by decide)
     have t4 : b 4 = true := ha 4 (by decide)
     have t5 : b 5 = true := ha 5 (by decide)
     have t6 : b 6 = true := ha 6 (by decide)
     have t7 : b 7 = true := ha 7 (by decide)
     have t8 : b 8 = true := ha 8 (by decide)
     have t9 : b 9 = true := ha 9 (by decide)
     have t10 : b 10 = true := ha 10 (by decide)
     have t11 : b 11 = true := ha 11 (by decide)
     have f13 : b 13 = false := hd 13 (by decide)
     refine Chain.runK [75] 1 fun K hK => ?_; simp [h0, t0, t1, t2, t3, t5, t6, t7, t8, t9, t10, t11, f13]; refine hK _ _ ?_; clear hK K
     exact Chain.nil (Sub.table (by simp [t0, t1, t2, t3, t5, t6, t7, t8, t9, t10, t11]) (by simp [t10, f13]))
    ·intro b h0 ha hd
     have t0 : b 0 = true := ha 0 (by decide)
     have t1 : b 1 = true := ha 1 (by decide)
     have t2 : b 2 = true := ha 2 (by decide)
     have t3 : b 3 = true := ha 3 (by decide)
     have t4 : b 4 = true := ha 4 (by decide)
     have t5 : b 5 = true := ha 5 (by decide)
     have t6 : b 6 = true := ha 6 (by decide)
     have t7 : b 7 = true := ha 7 (by decide)
     have t8 : b 8 = true := ha 8 (by decide)
     have t9 : b 9 = true := ha 9 (by decide)
     have t10 : b 10 = true := ha 10 (by decide)
     have t11 : b 11 = true := ha 11 (by decide)
     have t12 : b 12 = true := ha 12 (by decide)
     refine Chain.runK [75] 1 fun K hK => ?_; simp [h0, t0, t1, t2, t3, t5, t6, t7, t8, t9, t10, t11, t12]; refine hK _ _ ?_; clear hK K
     exact Chain.nil (Sub.table (by simp [t0, t1, t2, t3, t5, t6, t7, t8, t9, t10, t11, t12]) (by simp [t10]))
    ·intro b hb
     have t0 := hb 0 (by decide)
     have t1 := hb 1 (by decide)
     have t2 := hb 2 (by decide)
     have t3 := hb 3 (by decide)
     have t4 := hb 4 (by decide)
     have t5 := hb 5 (by decide)
     have t6 := hb 6 (by decide)
     have t7 := hb 7 (by decide)
     have t8 := hb 8 (by decide)
     have t9 := hb 9 (by decide)
     have t10 := hb 10 (by decide)
     have t11 := hb 11 (by decide)
     have t12 := hb 12 (by decide)
     have t13 := hb 13 (by decide)
     exact Sub.table (by simp [t0, t1, t2, t3, t5, t6, t7, t8, t9, t10, t11, t12]) (by simp [t10, t13])
    ·skip
     replace h := bsome h; obtain ⟨v19, hj, h⟩ := h
     refine AW.cutR (mk 266 [1000, 2000] [(6, .b v19)] [(1000, some (.box [.ref 25000 0 r14.1.buffer.length, .ref 25001 0 r14.1.disk.length, .ref 25002 0 r14.1.log.length, .i r14.1.flushed, .i r14.1.lastID, .ref 25005 0 r14.1.active.length, .ref 25006 0 r14.1.writer.length])), (2000, some (.box [.ref 45000 0 a1.Buffer.length, .ref 45001 0 a1.Disk.length, .ref 45002 0 a1.DiskLSN.length, .ref 45003 0 a1.Log.length, .i a1.Flushed, .i v16, .ref 45006 0 ((a1.Active ++ [v16]).length)])), (25000, R78 r14.1.buffer), (25001, R78 r14.1.disk), (25002, R80 r14.1.log), (25005, R3 r14.1.active), (25006, R3 r14.1.writer), (45000, R3 a1.Buffer), (45001, R3 a1.Disk), (45002, R3 a1.DiskLSN), (45003, R84 a1.Log), (45006, R3 (a1.Active ++ [v16]))]) ?_ ?_
     ·clear h; have h := hj; clear hj
      refine Chain.runK [] 4 fun K hK => ?_; simp; refine hK _ _ ?_; clear hK K
      refine Chain.sub (S' := mk 266 [1000, 2000] [(1, .ptr 2000 0 0), (14, .i r14.2.1), (82, .b (r14.2.2 == 0))] [(1000, some (.box [.ref 25000 0 r14.1.buffer.length, .ref 25001 0 r14.1.disk.length, .ref 25002 0 r14.1.log.length, .i r14.1.flushed, .i r14.1.lastID, .ref 25005 0 r14.1.active.length, .ref 25006 0 r14.1.writer.length])), (2000, some (.box [.ref 45000 0 a1.Buffer.length, .ref 45001 0 a1.Disk.length, .ref 45002 0 a1.DiskLSN.length, .ref 45003 0 a1.Log.length, .i a1.Flushed, .i v16, .ref 45006 0 ((a1.Active ++ [v16]).length)])), (25000, R78 r14.1.buffer), (25001, R78 r14.1.disk), (25002, R80 r14.1.log), (25005, R3 r14.1.active), (25006, R3 r14.1.writer), (45000, R3 a1.Buffer), (45001, R3 a1.Disk), (45002, R3 a1.DiskLSN), (45003, R84 a1.Log), (45006, R3 (a1.Active ++ [v16]))]) Sub.tt ?_
      replace h := isome h; rcases h with ⟨c20, h⟩ | ⟨c20, h⟩
      ·have c20_ : (r14.2.2 == 0) = true := c20
       refine Chain.sub (Sub.bool 82 (b := (r14.2.2 == 0)) rfl c20_) ?_
       refine Chain.sub (S' := mk 266 [1000, 2000] [(1, .ptr 2000 0 0), (14, .i r14.2.1), (82, .b true)] [(1000, some (.box [.ref 25000 0 r14.1.buffer.length, .ref 25001 0 r14.1.disk.length, .ref 25002 0 r14.1.log.length, .i r14.1.flushed, .i r14.1.lastID, .ref 25005 0 r14.1.active.length, .ref 25006 0 r14.1.writer.length])), (2000, some (.box [.ref 45000 0 a1.Buffer.length, .ref 45001 0 a1.Disk.length, .ref 45002 0 a1.DiskLSN.length, .ref 45003 0 a1.Log.length, .i a1.Flushed, .i v16, .ref 45006 0 ((a1.Active ++ [v16]).length)])), (25000, R78 r14.1.buffer), (25001, R78 r14.1.disk), (25002, R80 r14.1.log), (25005, R3 r14.1.active), (25006, R3 r14.1.writer), (45000, R3 a1.Buffer), (45001, R3 a1.Disk), (45002, R3 a1.DiskLSN), (45003, R84 a1.Log), (45006, R3 (a1.Active ++ [v16]))]) (by simp; exact Sub.table (by simp) (by simp)) ?_
       refine Chain.runK [] 8 fun K hK => ?_; simp; refine hK _ _ ?_; clear hK K
       refine Chain.sub (S' := mk 266 [1000, 2000] [(6, .b (r14.2.1 == v16))] [(1000, some (.box [.ref 25000 0 r14.1.buffer.length, .ref 25001 0 r14.1.disk.length, .ref 25002 0 r14.1.log.length, .i r14.1.flushed, .i r14.1.lastID, .ref 25005 0 r14.1.active.length, .ref 25006 0 r14.1.writer.length])), (2000, some (.box [.ref 45000 0 a1.Buffer.length, .ref 45001 0 a1.Disk.length, .ref 45002 0 a1.DiskLSN.length, .ref 45003 0 a1.Log.length, .i a1.Flushed, .i v16, .ref 45006 0 ((a1.Active ++ [v16]).length)])), (25000, R78 r14.1.buffer), (25001, R78 r14.1.disk), (25002, R80 r14.1.log), (25005, R3 r14.1.active), (25006, R3 r14.1.writer), (45000, R3 a1.Buffer), (45001, R3 a1.Disk), (45002, R3 a1.DiskLSN), (45003, R84 a1.Log), (45006, R3 (a1.Active ++ [v16]))]) Sub.tt ?_
       cases h
       exact Chain.nil Sub.tt
      ·have c20_ : (r14.2.2 == 0) = false := Bool.eq_false_iff.2 c20
       refine Chain.sub (Sub.bool 82 (b := (r14.2.2 == 0)) rfl c20_) ?_
       refine Chain.sub (S' := mk 266 [1000, 2000] [(1, .ptr 2000 0 0), (14, .i r14.2.1), (82, .b false)] [(1000, some (.box [.ref 25000 0 r14.1.buffer.length, .ref 25001 0 r14.1.disk.length, .ref 25002 0 r14.1.log.length, .i r14.1.flushed, .i r14.1.lastID, .ref 25005 0 r14.1.active.length, .ref 25006 0 r14.1.writer.length])), (2000, some (.box [.ref 45000 0 a1.Buffer.length, .ref 45001 0 a1.Disk.length, .ref 45002 0 a1.DiskLSN.length, .ref 45003 0 a1.Log.length, .i a1.Flushed, .i v16, .ref 45006 0 ((a1.Active ++ [v16]).length)])), (25000, R78 r14.1.buffer), (25001, R78 r14.1.disk), (25002, R80 r14.1.log), (25005, R3 r14.1.active), (25006, R3 r14.1.writer), (45000, R3 a1.Buffer), (45001, R3 a1.Disk), (45002, R3 a1.DiskLSN), (45003, R84 a1.Log), (45006, R3 (a1.Active ++ [v16]))]) (by simp; exact Sub.table (by simp) (by simp)) ?_
       refine Chain.runK [] 8 fun K hK => ?_; simp; refine hK _ _ ?_; clear hK K
       refine Chain.sub (S' := mk 266 [1000, 2000] [(6, .b false)] [(1000, some (.box [.ref 25000 0 r14.1.buffer.length, .ref 25001 0 r14.1.disk.length, .ref 25002 0 r14.1.log.length, .i r14.1.flushed, .i r14.1.lastID, .ref 25005 0 r14.1.active.length, .ref 25006 0 r14.1.writer.length])), (2000, some (.box [.ref 45000 0 a1.Buffer.length, .ref 45001 0 a1.Disk.length, .ref 45002 0 a1.DiskLSN.length, .ref 45003 0 a1.Log.length, .i a1.Flushed, .i v16, .ref 45006 0 ((a1.Active ++ [v16]).length)])), (25000, R78 r14.1.buffer), (25001, R78 r14.1.disk), (25002, R80 r14.1.log), (25005, R3 r14.1.active), (25006, R3 r14.1.writer), (45000, R3 a1.Buffer), (45001, R3 a1.Disk), (45002, R3 a1.DiskLSN), (45003, R84 a1.Log), (45006, R3 (a1.Active ++ [v16]))]) Sub.tt ?_
       cases h
       exact Chain.nil Sub.tt
     ·clear hj
      refine AW.ret ?_
      cases h
      refine blockQ.ret ?_
      refine thenQ_pass (by simp) ?_
      exact FinF.ret (by simp) (by simp)
   ·have c15_ : decide ((a1.Active.length : Int) < 10) = false := decide_eq_false c15
    refine AW.condF (b := decide ((a1.Active.length : Int) < 10)) rfl c15_ ?_
    refine AW.sub (Sub.bool 58 (b := decide ((a1.Active.length : Int) < 10)) rfl c15_) ?_
    refine AW.sub (S' := mk 266 [1000, 2000] [(1, .ptr 2000 0 0), (12, .i r14.2.2), (13, .i 18), (14, .i r14.2.1), (15, .i r14.2.2), (58, .b false)] [(1000, some (.box [.ref 25000 0 r14.1.buffer.length, .ref 25001 0 r14.1.disk.length, .ref 25002 0 r14.1.log.length, .i r14.1.flushed, .i r14.1.lastID, .ref 25005 0 r14.1.active.length, .ref 25006 0 r14.1.writer.length])), (2000, some (.box [.ref 45000 0 a1.Buffer.length, .ref 45001 0 a1.Disk.length, .ref 45002 0 a1.DiskLSN.length, .ref 45003 0 a1.Log.length, .i a1.Flushed, .i a1.LastID, .ref 45006 0 a1.Active.length])), (25000, R78 r14.1.buffer), (25001, R78 r14.1.disk), (25002, R80 r14.1.log), (25005, R3 r14.1.active), (25006, R3 r14.1.writer), (45000, R3 a1.Buffer), (45001, R3 a1.Disk), (45002, R3 a1.DiskLSN), (45003, R84 a1.Log), (45006, R3 a1.Active)]) (by simp; exact Sub.table (by simp) (by simp)) ?_
    refine AW.skip ?_
    refine blockQ.normal ?_
    refine thenQ_normal ?_
    refine AW.seqR ?_
    refine Chain.runK [] 4 fun K hK => ?_; simp; refine hK _ _ ?_; clear hK K
    refine Chain.sub (S' := mk 266 [1000, 2000] [(6, .b (r14.2.2 == 18))] [(1000, some (.box [.ref 25000 0 r14.1.buffer.length, .ref 25001 0 r14.1.disk.length, .ref 25002 0 r14.1.log.length, .i r14.1.flushed, .i r14.1.lastID, .ref 25005 0 r14.1.active.length, .ref 25006 0 r14.1.writer.length])), (2000, some (.box [.ref 45000 0 a1.Buffer.length, .ref 45001 0 a1.Disk.length, .ref 45002 0 a1.DiskLSN.length, .ref 45003 0 a1.Log.length, .i a1.Flushed, .i a1.LastID, .ref 45006 0 a1.Active.length])), (25000, R78 r14.1.buffer), (25001, R78 r14.1.disk), (25002, R80 r14.1.log), (25005, R3 r14.1.active), (25006, R3 r14.1.writer), (45000, R3 a1.Buffer), (45001, R3 a1.Disk), (45002, R3 a1.DiskLSN), (45003, R84 a1.Log), (45006, R3 a1.Active)]) Sub.tt ?_
    refine Chain.nil ?_
    refine AW.ret ?_
    cases h
    exact FinF.ret (by simp) (by simp)
  ·have c13_ : (r12 == 1) = false := Bool.eq_false_iff.2 c13
   refine AW.condF (b := (r12 == 1)) rfl c13_ ?_
   refine AW.sub (Sub.bool 45 (b := (r12 == 1)) rfl c13_) ?_
   refine AW.sub (S' := mk 266 [1000, 2000] [(0, .ptr 1000 0 0), (1, .ptr 2000 0 0), (2, .d (.sl (a2.map (cI .i64)))), (7, .ptr 7 0 0), (8, .i r2), (9, .i r3), (10, .b v7), (11, .b v8), (12, .i 0), (13, .i 0), (44, .i r12), (45, .b false)] [(7, some (.box [.i r1])), (1000, some (.box [.ref 25000 0 a0.buffer.length, .ref 25001 0 a0.disk.length, .ref 25002 0 a0.log.length, .i a0.flushed, .i a0.lastID, .ref 25005 0 a0.active.length, .ref 25006 0 a0.writer.length])), (2000, some (.box [.ref 45000 0 a1.Buffer.length, .ref 45001 0 a1.Disk.length, .ref 45002 0 a1.DiskLSN.length, .ref 45003 0 a1.Log.length, .i a1.Flushed, .i a1.LastID, .ref 45006 0 a1.Active.length])), (25000, R78 a0.buffer), (25001, R78 a0.disk), (25002, R80 a0.log), (25005, R3 a0.active), (25006, R3 a0.writer), (45000, R3 a1.Buffer), (45001, R3 a1.Disk), (45002, R3 a1.DiskLSN), (45003, R84 a1.Log), (45006, R3 a1.Active)]) (by simp; exact Sub.table (by simp) (by simp)) ?_
   refine AW.seqR ?_
   refine Chain.runK [] 2 fun K hK => ?_; simp; refine hK _ _ ?_; clear hK K
   refine Chain.sub (S' := mk 266 [1000, 2000] [(0, .ptr 1000 0 0), (1, .ptr 2000 0 0), (2, .d (.sl (a2.map (cI .i64)))), (7, .ptr 7 0 0), (8, .i r2), (9, .i r3), (10, .b v7), (11, .b v8), (12, .i 0), (13, .i 0), (44, .i r12), (90, .b (r12 == 2))] [(7, some (.box [.i r1])), (1000, some (.box [.ref 25000 0 a0.buffer.length, .ref 25001 0 a0.disk.length, .ref 25002 0 a0.log.length, .i a0.flushed, .i a0.lastID, .ref 25005 0 a0.active.length, .ref 25006 0 a0.writer.length])), (2000, some (.box [.ref 45000 0 a1.Buffer.length, .ref 45001 0 a1.Disk.length, .ref 45002 0 a1.DiskLSN.length, .ref 45003 0 a1.Log.length, .i a1.Flushed, .i a1.LastID, .ref 45006 0 a1.Active.length])), (25000, R78 a0.buffer), (25001, R78 a0.disk), (25002, R80 a0.log), (25005, R3 a0.active), (25006, R3 a0.writer), (45000, R3 a1.Buffer), (45001, R3 a1.Disk), (45002, R3 a1.DiskLSN), (45003, R84 a1.Log), (45006, R3 a1.Active)]) Sub.tt ?_
   refine Chain.nil ?_
   replace h := isome h; rcases h with ⟨c21, h⟩ | ⟨c21, h⟩
   ·have c21_ : (r12 == 2) = true := c21
    refine AW.condT (b := (r12 == 2)) rfl c21_ ?_
    refine AW.sub (Sub.bool 90 (b := (r12 == 2)) rfl c21_) ?_
    refine AW.sub (S' := mk 266 [1000, 2000] [(0, .ptr 1000 0 0), (1, .ptr 2000 0 0), (2, .d (.sl (a2.map (cI .i64)))), (7, .ptr 7 0 0), (8, .i r2), (9, .i r3), (10, .b v7), (11, .b v8), (12, .i 0), (13, .i 0), (44, .i r12), (90, .b true)] [(7, some (.box [.i r1])), (1000, some (.box [.ref 25000 0 a0.buffer.length, .ref 25001 0 a0.disk.length, .ref 25002 0 a0.log.length, .i a0.flushed, .i a0.lastID, .ref 25005 0 a0.active.length, .ref 25006 0 a0.writer.length])), (2000, some (.box [.ref 45000 0 a1.Buffer.length, .ref 45001 0 a1.Disk.length, .ref 45002 0 a1.DiskLSN.length, .ref 45003 0 a1.Log.length, .i a1.Flushed, .i a1.LastID, .ref 45006 0 a1.Active.length])), (25000, R78 a0.buffer), (25001, R78 a0.disk), (25002, R80 a0.log), (25005, R3 a0.active), (25006, R3 a0.writer), (45000, R3 a1.Buffer), (45001, R3 a1.Disk), (45002, R3 a1.DiskLSN), (45003, R84 a1.Log), (45006, R3 a1.Active)]) (by simp; exact Sub.table (by simp) (by simp)) ?_
    refine AW.seqR ?_
    refine Chain.runK [] 4 fun K hK => ?_; simp; refine hK _ _ ?_; clear hK K
    refine Chain.sub (S' := mk 266 [1000, 2000] [(1, .ptr 2000 0 0), (7, .ptr 7 0 0), (8, .i r2), (9, .i r3), (10, .b v7), (11, .b v8), (13, .i 0), (92, .ptr 1000 0 0), (93, .i r1), (94, .i r2), (95, .i r3)] [(7, some (.box [.i r1])), (1000, some (.box [.ref 25000 0 a0.buffer.length, .ref 25001 0 a0.disk.length, .ref 25002 0 a0.log.length, .i a0.flushed, .i a0.lastID, .ref 25005 0 a0.active.length, .ref 25006 0 a0.writer.length])), (2000, some (.box [.ref 45000 0 a1.Buffer.length, .ref 45001 0 a1.Disk.length, .ref 45002 0 a1.DiskLSN.length, .ref 45003 0 a1.Log.length, .i a1.Flushed, .i a1.LastID, .ref 45006 0 a1.Active.length])), (25000, R78 a0.buffer), (25001, R78 a0.disk), (25002, R80 a0.log), (25005, R3 a0.active), (25006, R3 a0.writer), (45000, R3 a1.Buffer), (45001, R3 a1.Disk), (45002, R3 a1.DiskLSN), (45003, R84 a1.Log), (45006, R3 a1.Active)]) Sub.tt ?_
    replace h := bsome h; obtain ⟨r22, hr22, h⟩ := h
    refine Chain.callF (p18 N a0 r1 r2 r3 r22 hr22) [(1000, 1000), (25000, 25000), (25001, 25001), (25002, 25002), (25005, 25005), (25006, 25006)] [1000] [(1000, 1000), (25000, 25000), (25001, 25001), (25002, 25002), (25005, 25005), (25006, 25006)] [(1000, (.box [.ref 25000 0 r22.1.buffer.length, .ref 25001 0 r22.1.disk.length, .ref 25002 0 r22.1.log.length, .d (.lit (.int .i64 r22.1.flushed)), .d (.lit (.int .i64 r22.1.lastID)), .ref 25005 0 r22.1.active.length, .ref 25006 0 r22.1.writer.length])), (25000, (.arr 78 2 (r22.1.buffer.map cS78))), (25001, (.arr 78 2 (r22.1.disk.map cS78))), (25002, (.arr 80 5 (r22.1.log.map cS80))), (25005, (.arr 3 1 (r22.1.active.map (cI .i64)))), (25006, (.arr 3 1 (r22.1.writer.map (cI .i64))))] (.d (.lit (.int .i64 r22.2))) (by simp) rfl (by simp <;> rfl) (by simp) (by simp) (by simp) (by simp) (by simp) ent18 (by simp) (by simp) (by simp) (by simp) (by simp) (by simp) ?_
    refine Chain.sub (S' := mk 266 [1000, 2000] [(1, .ptr 2000 0 0), (7, .ptr 7 0 0), (8, .i r2), (9, .i r3), (10, .b v7), (11, .b v8), (13, .i 0), (92, .ptr 1000 0 0), (93, .i r1), (94, .i r2), (95, .i r3), (96, .i r22.2)] [(7, some (.box [.i r1])), (1000, some (.box [.ref 25000 0 r22.1.buffer.length, .ref 25001 0 r22.1.disk.length, .ref 25002 0 r22.1.log.length, .i r22.1.flushed, .i r22.1.lastID, .ref 25005 0 r22.1.active.length, .ref 25006 0 r22.1.writer.length])), (2000, some (.box [.ref 45000 0 a1.Buffer.length, .ref 45001 0 a1.Disk.length, .ref 45002 0 a1.DiskLSN.length, .ref 45003 0 a1.Log.length, .i a1.Flushed, .i a1.LastID, .ref 45006 0 a1.Active.length])), (25000, R78 r22.1.buffer), (25001, R78 r22.1.disk), (25002, R80 r22.1.log), (25005, R3 r22.1.active), (25006, R3 r22.1.writer), (45000, R3 a1.Buffer), (45001, R3 a1.Disk), (45002, R3 a1.DiskLSN), (45003, R84 a1.Log), (45006, R3 a1.Active)]) (by simp; exact Sub.table (by simp) (by simp)) ?_
    refine Chain.runK [] 1 fun K hK => ?_; simp; refine hK _ _ ?_; clear hK K
    refine Chain.sub (S' := mk 266 [1000, 2000] [(1, .ptr 2000 0 0), (7, .ptr 7 0 0), (8, .i r2), (9, .i r3), (10, .b v7), (11, .b v8), (12, .i r22.2), (13, .i 0)] [(7, some (.box [.i r1])), (1000, some (.box [.ref 25000 0 r22.1.buffer.length, .ref 25001 0 r22.1.disk.length, .ref 25002 0 r22.1.log.length, .i r22.1.flushed, .i r22.1.lastID, .ref 25005 0 r22.1.active.length, .ref 25006 0 r22.1.writer.length])), (2000, some (.box [.ref 45000 0 a1.Buffer.length, .ref 45001 0 a1.Disk.length, .ref 45002 0 a1.DiskLSN.length, .ref 45003 0 a1.Log.length, .i a1.Flushed, .i a1.LastID, .ref 45006 0 a1.Active.length])), (25000, R78 r22.1.buffer), (25001, R78 r22.1.disk), (25002, R80 r22.1.log), (25005, R3 r22.1.active), (25006, R3 r22.1.writer), (45000, R3 a1.Buffer), (45001, R3 a1.Disk), (45002, R3 a1.DiskLSN), (45003, R84 a1.Log), (45006, R3 a1.Active)]) Sub.tt ?_
    refine Chain.nil ?_
    refine AW.block ?_
    refine AW.seqR ?_
    refine Chain.runK [] 3 fun K hK => ?_; simp; refine hK _ _ ?_; clear hK K
    refine Chain.sub (S' := mk 266 [1000, 2000] [(1, .ptr 2000 0 0), (7, .ptr 7 0 0), (8, .i r2), (9, .i r3), (10, .b v7), (12, .i r22.2), (13, .i 0), (110, .b (!v8))] [(7, some (.box [.i r1])), (1000, some (.box [.ref 25000 0 r22.1.buffer.length, .ref 25001 0 r22.1.disk.length, .ref 25002 0 r22.1.log.length, .i r22.1.flushed, .i r22.1.lastID, .ref 25005 0 r22.1.active.length, .ref 25006 0 r22.1.writer.length])), (2000, some (.box [.ref 45000 0 a1.Buffer.length, .ref 45001 0 a1.Disk.length, .ref 45002 0 a1.DiskLSN.length, .ref 45003 0 a1.Log.length, .i a1.Flushed, .i a1.LastID, .ref 45006 0 a1.Active.length])), (25000, R78 r22.1.buffer), (25001, R78 r22.1.disk), (25002, R80 r22.1.log), (25005, R3 r22.1.active), (25006, R3 r22.1.writer), (45000, R3 a1.Buffer), (45001, R3 a1.Disk), (45002, R3 a1.DiskLSN), (45003, R84 a1.Log), (45006, R3 a1.Active)]) Sub.tt ?_
    refine Chain.nil ?_
    replace h := isome h; rcases h with ⟨c23, h⟩ | ⟨c23, h⟩
    ·have c23_ : (!v8) = true := c23
     refine AW.condT (b := (!v8)) rfl c23_ ?_
     refine AW.sub (Sub.bool 110 (b := (!v8)) rfl c23_) ?_
     refine AW.sub (S' := mk 266 [1000, 2000] [(1, .ptr 2000 0 0), (7, .ptr 7 0 0), (8, .i r2), (9, .i r3), (10, .b v7), (12, .i r22.2), (13, .i 0), (110, .b true)] [(7, some (.box [.i r1])), (1000, some (.box [.ref 25000 0 r22.1.buffer.length, .ref 25001 0 r22.1.disk.length, .ref 25002 0 r22.1.log.length, .i r22.1.flushed, .i r22.1.lastID, .ref 25005 0 r22.1.active.length, .ref 25006 0 r22.1.writer.length])), (2000, some (.box [.ref 45000 0 a1.Buffer.length, .ref 45001 0 a1.Disk.length, .ref 45002 0 a1.DiskLSN.length, .ref 45003 0 a1.Log.length, .i a1.Flushed, .i a1.LastID, .ref 45006 0 a1.Active.length])), (25000, R78 r22.1.buffer), (25001, R78 r22.1.disk), (25002, R80 r22.1.log), (25005, R3 r22.1.active), (25006, R3 r22.1.writer), (45000, R3 a1.Buffer), (45001, R3 a1.Disk), (45002, R3 a1.DiskLSN), (45003, R84 a1.Log), (45006, R3 a1.Active)]) (by simp; exact Sub.table (by simp) (by simp)) ?_
     refine AW.region ?_
     refine Chain.runK [] 1 fun K hK => ?_; simp; refine hK _ _ ?_; clear hK K
     refine Chain.sub (S' := mk 266 [1000, 2000] [(12, .i r22.2), (13, .i 4)] [(1000, some (.box [.ref 25000 0 r22.1.buffer.length, .ref 25001 0 r22.1.disk.length, .ref 25002 0 r22.1.log.length, .i r22.1.flushed, .i r22.1.lastID, .ref 25005 0 r22.1.active.length, .ref 25006 0 r22.1.writer.length])), (2000, some (.box [.ref 45000 0 a1.Buffer.length, .ref 45001 0 a1.Disk.length, .ref 45002 0 a1.DiskLSN.length, .ref 45003 0 a1.Log.length, .i a1.Flushed, .i a1.LastID, .ref 45006 0 a1.Active.length])), (25000, R78 r22.1.buffer), (25001, R78 r22.1.disk), (25002, R80 r22.1.log), (25005, R3 r22.1.active), (25006, R3 r22.1.writer), (45000, R3 a1.Buffer), (45001, R3 a1.Disk), (45002, R3 a1.DiskLSN), (45003, R84 a1.Log), (45006, R3 a1.Active)]) Sub.tt ?_
     refine Chain.nil ?_
     refine blockQ.normal ?_
     refine blockQ.normal ?_
     refine thenQ_normal ?_
     refine AW.seqR ?_
     refine Chain.runK [] 4 fun K hK => ?_; simp; refine hK _ _ ?_; clear hK K
     refine Chain.sub (S' := mk 266 [1000, 2000] [(6, .b (r22.2 == 4))] [(1000, some (.box [.ref 25000 0 r22.1.buffer.length, .ref 25001 0 r22.1.disk.length, .ref 25002 0 r22.1.log.length, .i r22.1.flushed, .i r22.1.lastID, .ref 25005 0 r22.1.active.length, .ref 25006 0 r22.1.writer.length])), (2000, some (.box [.ref 45000 0 a1.Buffer.length, .ref 45001 0 a1.Disk.length, .ref 45002 0 a1.DiskLSN.length, .ref 45003 0 a1.Log.length, .i a1.Flushed, .i a1.LastID, .ref 45006 0 a1.Active.length])), (25000, R78 r22.1.buffer), (25001, R78 r22.1.disk), (25002, R80 r22.1.log), (25005, R3 r22.1.active), (25006, R3 r22.1.writer), (45000, R3 a1.Buffer), (45001, R3 a1.Disk), (45002, R3 a1.DiskLSN), (45003, R84 a1.Log), (45006, R3 a1.Active)]) Sub.tt ?_
     refine Chain.nil ?_
     refine AW.ret ?_
     cases h
     exact FinF.ret (by simp) (by simp)
    ·have c23_ : (!v8) = false := Bool.eq_false_iff.2 c23
     refine AW.condF (b := (!v8)) rfl c23_ ?_
     refine AW.sub (Sub.bool 110 (b := (!v8)) rfl c23_) ?_
     refine AW.sub (S' := mk 266 [1000, 2000] [(1, .ptr 2000 0 0), (7, .ptr 7 0 0), (8, .i r2), (9, .i r3), (10, .b v7), (12, .i r22.2), (13, .i 0), (110, .b false)] [(7, some (.box [.i r1])), (1000, some (.box [.ref 25000 0 r22.1.buffer.length, .ref 25001 0 r22.1.disk.length, .ref 25002 0 r22.1.log.length, .i r22.1.flushed, .i r22.1.lastID, .ref 25005 0 r22.1.active.length, .ref 25006 0 r22.1.writer.length])), (2000, some (.box [.ref 45000 0 a1.Buffer.length, .ref 45001 0 a1.Disk.length, .ref 45002 0 a1.DiskLSN.length, .ref 45003 0 a1.Log.length, .i a1.Flushed, .i a1.LastID, .ref 45006 0 a1.Active.length])), (25000, R78 r22.1.buffer), (25001, R78 r22.1.disk), (25002, R80 r22.1.log), (25005, R3 r22.1.active), (25006, R3 r22.1.writer), (45000, R3 a1.Buffer), (45001, R3 a1.Disk), (45002, R3 a1.DiskLSN), (45003, R84 a1.Log), (45006, R3 a1.Active)]) (by simp; exact Sub.table (by simp) (by simp)) ?_
     refine AW.seqR ?_
     refine Chain.runK [] 3 fun K hK => ?_; simp; refine hK _ _ ?_; clear hK K
     refine Chain.sub (S' := mk 266 [1000, 2000] [(1, .ptr 2000 0 0), (7, .ptr 7 0 0), (8, .i r2), (9, .i r3), (12, .i r22.2), (13, .i 0), (113, .b (!v7))] [(7, some (.box [.i r1])), (1000, some (.box [.ref 25000 0 r22.1.buffer.length, .ref 25001 0 r22.1.disk.length, .ref 25002 0 r22.1.log.length, .i r22.1.flushed, .i r22.1.lastID, .ref 25005 0 r22.1.active.length, .ref 25006 0 r22.1.writer.length])), (2000, some (.box [.ref 45000 0 a1.Buffer.length, .ref 45001 0 a1.Disk.length, .ref 45002 0 a1.DiskLSN.length, .ref 45003 0 a1.Log.length, .i a1.Flushed, .i a1.LastID, .ref 45006 0 a1.Active.length])), (25000, R78 r22.1.buffer), (25001, R78 r22.1.disk), (25002, R80 r22.1.log), (25005, R3 r22.1.active), (25006, R3 r22.1.writer), (45000, R3 a1.Buffer), (45001, R3 a1.Disk), (45002, R3 a1.DiskLSN), (45003, R84 a1.Log), (45006, R3 a1.Active)]) Sub.tt ?_
     refine Chain.nil ?_
     replace h := isome h; rcases h with ⟨c24, h⟩ | ⟨c24, h⟩
     ·have c24_ : (!v7) = true := c24
      refine AW.condT (b := (!v7)) rfl c24_ ?_
      refine AW.sub (Sub.bool 113 (b := (!v7)) rfl c24_) ?_
      refine AW.sub (S' := mk 266 [1000, 2000] [(1, .ptr 2000 0 0), (7, .ptr 7 0 0), (8, .i r2), (9, .i r3), (12, .i r22.2), (13, .i 0), (113, .b true)] [(7, some (.box [.i r1])), (1000, some (.box [.ref 25000 0 r22.1.buffer.length, .ref 25001 0 r22.1.disk.length, .ref 25002 0 r22.1.log.length, .i r22.1.flushed, .i r22.1.lastID, .ref 25005 0 r22.1.active.length, .ref 25006 0 r22.1.writer.length])), (2000, some (.box [.ref 45000 0 a1.Buffer.length, .ref 45001 0 a1.Disk.length, .ref 45002 0 a1.DiskLSN.length, .ref 45003 0 a1.Log.length, .i a1.Flushed, .i a1.LastID, .ref 45006 0 a1.Active.length])), (25000, R78 r22.1.buffer), (25001, R78 r22.1.disk), (25002, R80 r22.1.log), (25005, R3 r22.1.active), (25006, R3 r22.1.writer), (45000, R3 a1.Buffer), (45001, R3 a1.Disk), (45002, R3 a1.DiskLSN), (45003, R84 a1.Log), (45006, R3 a1.Active)]) (by simp; exact Sub.table (by simp) (by simp)) ?_
      refine AW.region ?_
      refine Chain.runK [] 1 fun K hK => ?_; simp; refine hK _ _ ?_; clear hK K
      refine Chain.sub (S' := mk 266 [1000, 2000] [(12, .i r22.2), (13, .i 1)] [(1000, some (.box [.ref 25000 0 r22.1.buffer.length, .ref 25001 0 r22.1.disk.length, .ref 25002 0 r22.1.log.length, .i r22.1.flushed, .i r22.1.lastID, .ref 25005 0 r22.1.active.length, .ref 25006 0 r22.1.writer.length])), (2000, some (.box [.ref 45000 0 a1.Buffer.length, .ref 45001 0 a1.Disk.length, .ref 45002 0 a1.DiskLSN.length, .ref 45003 0 a1.Log.length, .i a1.Flushed, .i a1.LastID, .ref 45006 0 a1.Active.length])), (25000, R78 r22.1.buffer), (25001, R78 r22.1.disk), (25002, R80 r22.1.log), (25005, R3 r22.1.active), (25006, R3 r22.1.writer), (45000, R3 a1.Buffer), (45001, R3 a1.Disk), (45002, R3 a1.DiskLSN), (45003, R84 a1.Log), (45006, R3 a1.Active)]) Sub.tt ?_
      refine Chain.nil ?_
      refine blockQ.normal ?_
      refine blockQ.normal ?_
      refine thenQ_normal ?_
      refine AW.seqR ?_
      refine Chain.runK [] 4 fun K hK => ?_; simp; refine hK _ _ ?_; clear hK K
      refine Chain.sub (S' := mk 266 [1000, 2000] [(6, .b (r22.2 == 1))] [(1000, some (.box [.ref 25000 0 r22.1.buffer.length, .ref 25001 0 r22.1.disk.length, .ref 25002 0 r22.1.log.length, .i r22.1.flushed, .i r22.1.lastID, .ref 25005 0 r22.1.active.length, .ref 25006 0 r22.1.writer.length])), (2000, some (.box [.ref 45000 0 a1.Buffer.length, .ref 45001 0 a1.Disk.length, .ref 45002 0 a1.DiskLSN.length, .ref 45003 0 a1.Log.length, .i a1.Flushed, .i a1.LastID, .ref 45006 0 a1.Active.length])), (25000, R78 r22.1.buffer), (25001, R78 r22.1.disk), (25002, R80 r22.1.log), (25005, R3 r22.1.active), (25006, R3 r22.1.writer), (45000, R3 a1.Buffer), (45001, R3 a1.Disk), (45002, R3 a1.DiskLSN), (45003, R84 a1.Log), (45006, R3 a1.Active)]) Sub.tt ?_
      refine Chain.nil ?_
      refine AW.ret ?_
      cases h
      exact FinF.ret (by simp) (by simp)
     ·have c24_ : (!v7) = false := Bool.eq_false_iff.2 c24
      refine AW.condF (b := (!v7)) rfl c24_ ?_
      refine AW.sub (Sub.bool 113 (b := (!v7)) rfl c24_) ?_
      refine AW.sub (S' := mk 266 [1000, 2000] [(1, .ptr 2000 0 0), (7, .ptr 7 0 0), (8, .i r2), (9, .i r3), (12, .i r22.2), (13, .i 0), (113, .b false)] [(7, some (.box [.i r1])), (1000, some (.box [.ref 25000 0 r22.1.buffer.length, .ref 25001 0 r22.1.disk.length, .ref 25002 0 r22.1.log.length, .i r22.1.flushed, .i r22.1.lastID, .ref 25005 0 r22.1.active.length, .ref 25006 0 r22.1.writer.length])), (2000, some (.box [.ref 45000 0 a1.Buffer.length, .ref 45001 0 a1.Disk.length, .ref 45002 0 a1.DiskLSN.length, .ref 45003 0 a1.Log.length, .i a1.Flushed, .i a1.LastID, .ref 45006 0 a1.Active.length])), (25000, R78 r22.1.buffer), (25001, R78 r22.1.disk), (25002, R80 r22.1.log), (25005, R3 r22.1.active), (25006, R3 r22.1.writer), (45000, R3 a1.Buffer), (45001, R3 a1.Disk), (45002, R3 a1.DiskLSN), (45003, R84 a1.Log), (45006, R3 a1.Active)]) (by simp; exact Sub.table (by simp) (by simp)) ?_
      replace h := bsome h; obtain ⟨v28, hj, h⟩ := h
      refine AW.cutQ (by kernel_rfl) (by kernel_rfl) (mk 266 [1000, 2000] [(1, .ptr 2000 0 0), (7, .ptr 7 0 0), (8, .i r2), (9, .i r3), (12, .i r22.2), (13, .i 0), (116, .b v28)] [(7, some (.box [.i r1])), (1000, some (.box [.ref 25000 0 r22.1.buffer.length, .ref 25001 0 r22.1.disk.length, .ref 25002 0 r22.1.log.length, .i r22.1.flushed, .i r22.1.lastID, .ref 25005 0 r22.1.active.length, .ref 25006 0 r22.1.writer.length])), (2000, some (.box [.ref 45000 0 a1.Buffer.length, .ref 45001 0 a1.Disk.length, .ref 45002 0 a1.DiskLSN.length, .ref 45003 0 a1.Log.length, .i a1.Flushed, .i a1.LastID, .ref 45006 0 a1.Active.length])), (25000, R78 r22.1.buffer), (25001, R78 r22.1.disk), (25002, R80 r22.1.log), (25005, R3 r22.1.active), (25006, R3 r22.1.writer), (45000, R3 a1.Buffer), (45001, R3 a1.Disk), (45002, R3 a1.DiskLSN), (45003, R84 a1.Log), (45006, R3 a1.Active)]) ?_ ?_
      ·clear h; have h := hj; clear hj
       refine Chain.runQ 2 fun K hK => ?_; simp; refine hK _ _ ?_; clear hK K
       refine Chain.sub (S' := mk 266 [1000, 2000] [(1, .ptr 2000 0 0), (7, .ptr 7 0 0), (8, .i r2), (9, .i r3), (12, .i r22.2), (13, .i 0), (117, .ptr 2000 0 0), (118, .i r2)] [(7, some (.box [.i r1])), (1000, some (.box [.ref 25000 0 r22.1.buffer.length, .ref 25001 0 r22.1.disk.length, .ref 25002 0 r22.1.log.length, .i r22.1.flushed, .i r22.1.lastID, .ref 25005 0 r22.1.active.length, .ref 25006 0 r22.1.writer.length])), (2000, some (.box [.ref 45000 0 a1.Buffer.length, .ref 45001 0 a1.Disk.length, .ref 45002 0 a1.DiskLSN.length, .ref 45003 0 a1.Log.length, .i a1.Flushed, .i a1.LastID, .ref 45006 0 a1.Active.length])), (25000, R78 r22.1.buffer), (25001, R78 r22.1.disk), (25002, R80 r22.1.log), (25005, R3 r22.1.active), (25006, R3 r22.1.writer), (45000, R3 a1.Buffer), (45001, R3 a1.Disk), (45002, R3 a1.DiskLSN), (45003, R84 a1.Log), (45006, R3 a1.Active)]) Sub.tt ?_
       replace h := bsome h; obtain ⟨r29, hr29, h⟩ := h
       refine Chain.callL (d := 119) (p26 N a1 r2 r29 hr29) (by simp) rfl rfl (by simp <;> rfl) (by simp <;> rfl) ent26 (by simp <;> rfl) ?_
       refine Chain.sub (S' := mk 266 [1000, 2000] [(1, .ptr 2000 0 0), (7, .ptr 7 0 0), (8, .i r2), (9, .i r3), (12, .i r22.2), (13, .i 0), (117, .ptr 2000 0 0), (118, .i r2), (119, .i r29)] [(7, some (.box [.i r1])), (1000, some (.box [.ref 25000 0 r22.1.buffer.length, .ref 25001 0 r22.1.disk.length, .ref 25002 0 r22.1.log.length, .i r22.1.flushed, .i r22.1.lastID, .ref 25005 0 r22.1.active.length, .ref 25006 0 r22.1.writer.length])), (2000, some (.box [.ref 45000 0 a1.Buffer.length, .ref 45001 0 a1.Disk.length, .ref 45002 0 a1.DiskLSN.length, .ref 45003 0 a1.Log.length, .i a1.Flushed, .i a1.LastID, .ref 45006 0 a1.Active.length])), (25000, R78 r22.1.buffer), (25001, R78 r22.1.disk), (25002, R80 r22.1.log), (25005, R3 r22.1.active), (25006, R3 r22.1.writer), (45000, R3 a1.Buffer), (45001, R3 a1.Disk), (45002, R3 a1.DiskLSN), (45003, R84 a1.Log), (45006, R3 a1.Active)]) (by simp; exact Sub.table (by simp) (by simp)) ?_
       refine Chain.runQ 2 fun K hK => ?_; simp; refine hK _ _ ?_; clear hK K
       refine Chain.sub (S' := mk 266 [1000, 2000] [(1, .ptr 2000 0 0), (7, .ptr 7 0 0), (8, .i r2), (9, .i r3), (12, .i r22.2), (13, .i 0), (121, .b (r29 != 0))] [(7, some (.box [.i r1])), (1000, some (.box [.ref 25000 0 r22.1.buffer.length, .ref 25001 0 r22.1.disk.length, .ref 25002 0 r22.1.log.length, .i r22.1.flushed, .i r22.1.lastID, .ref 25005 0 r22.1.active.length, .ref 25006 0 r22.1.writer.length])), (2000, some (.box [.ref 45000 0 a1.Buffer.length, .ref 45001 0 a1.Disk.length, .ref 45002 0 a1.DiskLSN.length, .ref 45003 0 a1.Log.length, .i a1.Flushed, .i a1.LastID, .ref 45006 0 a1.Active.length])), (25000, R78 r22.1.buffer), (25001, R78 r22.1.disk), (25002, R80 r22.1.log), (25005, R3 r22.1.active), (25006, R3 r22.1.writer), (45000, R3 a1.Buffer), (45001, R3 a1.Disk), (45002, R3 a1.DiskLSN), (45003, R84 a1.Log), (45006, R3 a1.Active)]) Sub.tt ?_
       replace h := isome h; rcases h with ⟨c30, h⟩ | ⟨c30, h⟩
       ·have c30_ : (r29 != 0) = true := c30
        refine Chain.sub (Sub.bool 121 (b := (r29 != 0)) rfl c30_) ?_
        refine Chain.sub (S' := mk 266 [1000, 2000] [(1, .ptr 2000 0 0), (7, .ptr 7 0 0), (8, .i r2), (9, .i r3), (12, .i r22.2), (13, .i 0), (121, .b true)] [(7, some (.box [.i r1])), (1000, some (.box [.ref 25000 0 r22.1.buffer.length, .ref 25001 0 r22.1.disk.length, .ref 25002 0 r22.1.log.length, .i r22.1.flushed, .i r22.1.lastID, .ref 25005 0 r22.1.active.length, .ref 25006 0 r22.1.writer.length])), (2000, some (.box [.ref 45000 0 a1.Buffer.length, .ref 45001 0 a1.Disk.length, .ref 45002 0 a1.DiskLSN.length, .ref 45003 0 a1.Log.length, .i a1.Flushed, .i a1.LastID, .ref 45006 0 a1.Active.length])), (25000, R78 r22.1.buffer), (25001, R78 r22.1.disk), (25002, R80 r22.1.log), (25005, R3 r22.1.active), (25006, R3 r22.1.writer), (45000, R3 a1.Buffer), (45001, R3 a1.Disk), (45002, R3 a1.DiskLSN), (45003, R84 a1.Log), (45006, R3 a1.Active)]) (by simp; exact Sub.table (by simp) (by simp)) ?_
        refine Chain.runQ 2 fun K hK => ?_; simp; refine hK _ _ ?_; clear hK K
        refine Chain.sub (S' := mk 266 [1000, 2000] [(1, .ptr 2000 0 0), (7, .ptr 7 0 0), (8, .i r2), (9, .i r3), (12, .i r22.2), (13, .i 0), (121, .b true), (122, .ptr 2000 0 0), (123, .i r2)] [(7, some (.box [.i r1])), (1000, some (.box [.ref 25000 0 r22.1.buffer.length, .ref 25001 0 r22.1.disk.length, .ref 25002 0 r22.1.log.length, .i r22.1.flushed, .i r22.1.lastID, .ref 25005 0 r22.1.active.length, .ref 25006 0 r22.1.writer.length])), (2000, some (.box [.ref 45000 0 a1.Buffer.length, .ref 45001 0 a1.Disk.length, .ref 45002 0 a1.DiskLSN.length, .ref 45003 0 a1.Log.length, .i a1.Flushed, .i a1.LastID, .ref 45006 0 a1.Active.length])), (25000, R78 r22.1.buffer), (25001, R78 r22.1.disk), (25002, R80 r22.1.log), (25005, R3 r22.1.active), (25006, R3 r22.1.writer), (45000, R3 a1.Buffer), (45001, R3 a1.Disk), (45002, R3 a1.DiskLSN), (45003, R84 a1.Log), (45006, R3 a1.Active)]) Sub.tt ?_
        replace h := bsome h; obtain ⟨r31, hr31, h⟩ := h
        refine Chain.callL (d := 124) (p26 N a1 r2 r31 hr31) (by simp) rfl rfl (by simp <;> rfl) (by simp <;> rfl) ent26 (by simp <;> rfl) ?_
        refine Chain.sub (S' := mk 266 [1000, 2000] [(1, .ptr 2000 0 0), (7, .ptr 7 0 0), (8, .i r2), (9, .i r3), (12, .i r22.2), (13, .i 0), (121, .b true), (122, .ptr 2000 0 0), (123, .i r2), (124, .i r31)] [(7, some (.box [.i r1])), (1000, some (.box [.ref 25000 0 r22.1.buffer.length, .ref 25001 0 r22.1.disk.length, .ref 25002 0 r22.1.log.length, .i r22.1.flushed, .i r22.1.lastID, .ref 25005 0 r22.1.active.length, .ref 25006 0 r22.1.writer.length])), (2000, some (.box [.ref 45000 0 a1.Buffer.length, .ref 45001 0 a1.Disk.length, .ref 45002 0 a1.DiskLSN.length, .ref 45003 0 a1.Log.length, .i a1.Flushed, .i a1.LastID, .ref 45006 0 a1.Active.length])), (25000, R78 r22.1.buffer), (25001, R78 r22.1.disk), (25002, R80 r22.1.log), (25005, R3 r22.1.active), (25006, R3 r22.1.writer), (45000, R3 a1.Buffer), (45001, R3 a1.Disk), (45002, R3 a1.DiskLSN), (45003, R84 a1.Log), (45006, R3 a1.Active)]) (by simp; exact Sub.table (by simp) (by simp)) ?_
        refine Chain.runQ 4 fun K hK => ?_; simp; refine hK _ _ ?_; clear hK K
        refine Chain.sub (S' := mk 266 [1000, 2000] [(1, .ptr 2000 0 0), (7, .ptr 7 0 0), (8, .i r2), (9, .i r3), (12, .i r22.2), (13, .i 0), (116, .b (r31 != r1))] [(7, some (.box [.i r1])), (1000, some (.box [.ref 25000 0 r22.1.buffer.length, .ref 25001 0 r22.1.disk.length, .ref 25002 0 r22.1.log.length, .i r22.1.flushed, .i r22.1.lastID, .ref 25005 0 r22.1.active.length, .ref 25006 0 r22.1.writer.length])), (2000, some (.box [.ref 45000 0 a1.Buffer.length, .ref 45001 0 a1.Disk.length, .ref 45002 0 a1.DiskLSN.length, .ref 45003 0 a1.Log.length, .i a1.Flushed, .i a1.LastID, .ref 45006 0 a1.Active.length])), (25000, R78 r22.1.buffer), (25001, R78 r22.1.disk), (25002, R80 r22.1.log), (25005, R3 r22.1.active), (25006, R3 r22.1.writer), (45000, R3 a1.Buffer), (45001, R3 a1.Disk), (45002, R3 a1.DiskLSN), (45003, R84 a1.Log), (45006, R3 a1.Active)]) Sub.tt ?_
        cases h
        exact Chain.nil Sub.tt
       ·have c30_ : (r29 != 0) = false := Bool.eq_false_iff.2 c30
        refine Chain.sub (Sub.bool 121 (b := (r29 != 0)) rfl c30_) ?_
        refine Chain.sub (S' := mk 266 [1000, 2000] [(1, .ptr 2000 0 0), (7, .ptr 7 0 0), (8, .i r2), (9, .i r3), (12, .i r22.2), (13, .i 0), (121, .b false)] [(7, some (.box [.i r1])), (1000, some (.box [.ref 25000 0 r22.1.buffer.length, .ref 25001 0 r22.1.disk.length, .ref 25002 0 r22.1.log.length, .i r22.1.flushed, .i r22.1.lastID, .ref 25005 0 r22.1.active.length, .ref 25006 0 r22.1.writer.length])), (2000, some (.box [.ref 45000 0 a1.Buffer.length, .ref 45001 0 a1.Disk.length, .ref 45002 0 a1.DiskLSN.length, .ref 45003 0 a1.Log.length, .i a1.Flushed, .i a1.LastID, .ref 45006 0 a1.Active.length])), (25000, R78 r22.1.buffer), (25001, R78 r22.1.disk), (25002, R80 r22.1.log), (25005, R3 r22.1.active), (25006, R3 r22.1.writer), (45000, R3 a1.Buffer), (45001, R3 a1.Disk), (45002, R3 a1.DiskLSN), (45003, R84 a1.Log), (45006, R3 a1.Active)]) (by simp; exact Sub.table (by simp) (by simp)) ?_
        refine Chain.runQ 7 fun K hK => ?_; simp; refine hK _ _ ?_; clear hK K
        refine Chain.sub (S' := mk 266 [1000, 2000] [(1, .ptr 2000 0 0), (7, .ptr 7 0 0), (8, .i r2), (9, .i r3), (12, .i r22.2), (13, .i 0), (116, .b false)] [(7, some (.box [.i r1])), (1000, some (.box [.ref 25000 0 r22.1.buffer.length, .ref 25001 0 r22.1.disk.length, .ref 25002 0 r22.1.log.length, .i r22.1.flushed, .i r22.1.lastID, .ref 25005 0 r22.1.active.length, .ref 25006 0 r22.1.writer.length])), (2000, some (.box [.ref 45000 0 a1.Buffer.length, .ref 45001 0 a1.Disk.length, .ref 45002 0 a1.DiskLSN.length, .ref 45003 0 a1.Log.length, .i a1.Flushed, .i a1.LastID, .ref 45006 0 a1.Active.length])), (25000, R78 r22.1.buffer), (25001, R78 r22.1.disk), (25002, R80 r22.1.log), (25005, R3 r22.1.active), (25006, R3 r22.1.writer), (45000, R3 a1.Buffer), (45001, R3 a1.Disk), (45002, R3 a1.DiskLSN), (45003, R84 a1.Log), (45006, R3 a1.Active)]) Sub.tt ?_
        cases h
        exact Chain.nil Sub.tt
      ·clear hj
       replace h := isome h; rcases h with ⟨c32, h⟩ | ⟨c32, h⟩
       ·have c32_ : v28 = true := c32
        refine AW.condT (b := v28) rfl c32_ ?_
        refine AW.sub (Sub.bool 116 (b := v28) rfl c32_) ?_
        refine AW.sub (S' := mk 266 [1000, 2000] [(1, .ptr 2000 0 0), (7, .ptr 7 0 0), (8, .i r2), (9, .i r3), (12, .i r22.2), (13, .i 0), (116, .b true)] [(7, some (.box [.i r1])), (1000, some (.box [.ref 25000 0 r22.1.buffer.length, .ref 25001 0 r22.1.disk.length, .ref 25002 0 r22.1.log.length, .i r22.1.flushed, .i r22.1.lastID, .ref 25005 0 r22.1.active.length, .ref 25006 0 r22.1.writer.length])), (2000, some (.box [.ref 45000 0 a1.Buffer.length, .ref 45001 0 a1.Disk.length, .ref 45002 0 a1.DiskLSN.length, .ref 45003 0 a1.Log.length, .i a1.Flushed, .i a1.LastID, .ref 45006 0 a1.Active.length])), (25000, R78 r22.1.buffer), (25001, R78 r22.1.disk), (25002, R80 r22.1.log), (25005, R3 r22.1.active), (25006, R3 r22.1.writer), (45000, R3 a1.Buffer), (45001, R3 a1.Disk), (45002, R3 a1.DiskLSN), (45003, R84 a1.Log), (45006, R3 a1.Active)]) (by simp; exact Sub.table (by simp) (by simp)) ?_
        refine AW.region ?_
        refine Chain.runK [] 1 fun K hK => ?_; simp; refine hK _ _ ?_; clear hK K
        refine Chain.sub (S' := mk 266 [1000, 2000] [(12, .i r22.2), (13, .i 16)] [(1000, some (.box [.ref 25000 0 r22.1.buffer.length, .ref 25001 0 r22.1.disk.length, .ref 25002 0 r22.1.log.length, .i r22.1.flushed, .i r22.1.lastID, .ref 25005 0 r22.1.active.length, .ref 25006 0 r22.1.writer.length])), (2000, some (.box [.ref 45000 0 a1.Buffer.length, .ref 45001 0 a1.Disk.length, .ref 45002 0 a1.DiskLSN.length, .ref 45003 0 a1.Log.length, .i a1.Flushed, .i a1.LastID, .ref 45006 0 a1.Active.length])), (25000, R78 r22.1.buffer), (25001, R78 r22.1.disk), (25002, R80 r22.1.log), (25005, R3 r22.1.active), (25006, R3 r22.1.writer), (45000, R3 a1.Buffer), (45001, R3 a1.Disk), (45002, R3 a1.DiskLSN), (45003, R84 a1.Log), (45006, R3 a1.Active)]) Sub.tt ?_
        refine Chain.nil ?_
        refine blockQ.normal ?_
        refine blockQ.normal ?_
        refine thenQ_normal ?_
        refine AW.seqR ?_
        refine Chain.runK [] 4 fun K hK => ?_; simp; refine hK _ _ ?_; clear hK K
        refine Chain.sub (S' := mk 266 [1000, 2000] [(6, .b (r22.2 == 16))] [(1000, some (.box [.ref 25000 0 r22.1.buffer.length, .ref 25001 0 r22.1.disk.length, .ref 25002 0 r22.1.log.length, .i r22.1.flushed, .i r22.1.lastID, .ref 25005 0 r22.1.active.length, .ref 25006 0 r22.1.writer.length])), (2000, some (.box [.ref 45000 0 a1.Buffer.length, .ref 45001 0 a1.Disk.length, .ref 45002 0 a1.DiskLSN.length, .ref 45003 0 a1.Log.length, .i a1.Flushed, .i a1.LastID, .ref 45006 0 a1.Active.length])), (25000, R78 r22.1.buffer), (25001, R78 r22.1.disk), (25002, R80 r22.1.log), (25005, R3 r22.1.active), (25006, R3 r22.1.writer), (45000, R3 a1.Buffer), (45001, R3 a1.Disk), (45002, R3 a1.DiskLSN), (45003, R84 a1.Log), (45006, R3 a1.Active)]) Sub.tt ?_
        refine Chain.nil ?_
        refine AW.ret ?_
        cases h
        exact FinF.ret (by simp) (by simp)
       ·have c32_ : v28 = false := Bool.eq_false_iff.2 c32
        refine AW.condF (b := v28) rfl c32_ ?_
        refine AW.sub (Sub.bool 116 (b := v28) rfl c32_) ?_
        refine AW.sub (S' := mk 266 [1000, 2000] [(1, .ptr 2000 0 0), (7, .ptr 7 0 0), (8, .i r2), (9, .i r3), (12, .i r22.2), (13, .i 0), (116, .b false)] [(7, some (.box [.i r1])), (1000, some (.box [.ref 25000 0 r22.1.buffer.length, .ref 25001 0 r22.1.disk.length, .ref 25002 0 r22.1.log.length, .i r22.1.flushed, .i r22.1.lastID, .ref 25005 0 r22.1.active.length, .ref 25006 0 r22.1.writer.length])), (2000, some (.box [.ref 45000 0 a1.Buffer.length, .ref 45001 0 a1.Disk.length, .ref 45002 0 a1.DiskLSN.length, .ref 45003 0 a1.Log.length, .i a1.Flushed, .i a1.LastID, .ref 45006 0 a1.Active.length])), (25000, R78 r22.1.buffer), (25001, R78 r22.1.disk), (25002, R80 r22.1.log), (25005, R3 r22.1.active), (25006, R3 r22.1.writer), (45000, R3 a1.Buffer), (45001, R3 a1.Disk), (45002, R3 a1.DiskLSN), (45003, R84 a1.Log), (45006, R3 a1.Active)]) (by simp; exact Sub.table (by simp) (by simp)) ?_
        refine AW.seqR ?_
        refine Chain.runK [] 7 fun K hK => ?_; simp; refine hK _ _ ?_; clear hK K
        refine Chain.sub (S' := mk 266 [1000, 2000] [(1, .ptr 2000 0 0), (7, .ptr 7 0 0), (8, .i r2), (9, .i r3), (12, .i r22.2), (13, .i 0), (128, .b (decide ((a1.Log.length : Int) ≥ 2000)))] [(7, some (.box [.i r1])), (1000, some (.box [.ref 25000 0 r22.1.buffer.length, .ref 25001 0 r22.1.disk.length, .ref 25002 0 r22.1.log.length, .i r22.1.flushed, .i r22.1.lastID, .ref 25005 0 r22.1.active.length, .ref 25006 0 r22.1.writer.length])), (2000, some (.box [.ref 45000 0 a1.Buffer.length, .ref 45001 0 a1.Disk.length, .ref 45002 0 a1.DiskLSN.length, .ref 45003 0 a1.Log.length, .i a1.Flushed, .i a1.LastID, .ref 45006 0 a1.Active.length])), (25000, R78 r22.1.buffer), (25001, R78 r22.1.disk), (25002, R80 r22.1.log), (25005, R3 r22.1.active), (25006, R3 r22.1.writer), (45000, R3 a1.Buffer), (45001, R3 a1.Disk), (45002, R3 a1.DiskLSN), (45003, R84 a1.Log), (45006, R3 a1.Active)]) Sub.tt ?_
        refine Chain.nil ?_
        replace h := isome h; rcases h with ⟨c33, h⟩ | ⟨c33, h⟩
        ·have c33_ : decide ((a1.Log.length : Int) ≥ 2000) = true := decide_eq_true c33
         refine AW.condT (b := decide ((a1.Log.length : Int) ≥ 2000)) rfl c33_ ?_
         refine AW.sub (Sub.bool 128 (b := decide ((a1.Log.length : Int) ≥ 2000)) rfl c33_) ?_
         refine AW.sub (S' := mk 266 [1000, 2000] [(1, .ptr 2000 0 0), (7, .ptr 7 0 0), (8, .i r2), (9, .i r3), (12, .i r22.2), (13, .i 0), (128, .b true)] [(7, some (.box [.i r1])), (1000, some (.box [.ref 25000 0 r22.1.buffer.length, .ref 25001 0 r22.1.disk.length, .ref 25002 0 r22.1.log.length, .i r22.1.flushed, .i r22.1.lastID, .ref 25005 0 r22.1.active.length, .ref 25006 0 r22.1.writer.length])), (2000, some (.box [.ref 45000 0 a1.Buffer.length, .ref 45001 0 a1.Disk.length, .ref 45002 0 a1.DiskLSN.length, .ref 45003 0 a1.Log.length, .i a1.Flushed, .i a1.LastID, .ref 45006 0 a1.Active.length])), (25000, R78 r22.1.buffer), (25001, R78 r22.1.disk), (25002, R80 r22.1.log), (25005, R3 r22.1.active), (25006, R3 r22.1.writer), (45000, R3 a1.Buffer), (45001, R3 a1.Disk), (45002, R3 a1.DiskLSN), (45003, R84 a1.Log), (45006, R3 a1.Active)]) (by simp; exact Sub.table (by simp) (by simp)) ?_
         refine AW.region ?_
         refine Chain.runK [] 1 fun K hK => ?_; simp; refine hK _ _ ?_; clear hK K
         refine Chain.sub (S' := mk 266 [1000, 2000] [(12, .i r22.2), (13, .i 18)] [(1000, some (.box [.ref 25000 0 r22.1.buffer.length, .ref 25001 0 r22.1.disk.length, .ref 25002 0 r22.1.log.length, .i r22.1.flushed, .i r22.1.lastID, .ref 25005 0 r22.1.active.length, .ref 25006 0 r22.1.writer.length])), (2000, some (.box [.ref 45000 0 a1.Buffer.length, .ref 45001 0 a1.Disk.length, .ref 45002 0 a1.DiskLSN.length, .ref 45003 0 a1.Log.length, .i a1.Flushed, .i a1.LastID, .ref 45006 0 a1.Active.length])), (25000, R78 r22.1.buffer), (25001, R78 r22.1.disk), (25002, R80 r22.1.log), (25005, R3 r22.1.active), (25006, R3 r22.1.writer), (45000, R3 a1.Buffer), (45001, R3 a1.Disk), (45002, R3 a1.DiskLSN), (45003, R84 a1.Log), (45006, R3 a1.Active)]) Sub.tt ?_
         refine Chain.nil ?_
         refine blockQ.normal ?_
         refine blockQ.normal ?_
         refine thenQ_normal ?_
         refine AW.seqR ?_
         refine Chain.runK [] 4 fun K hK => ?_; simp; refine hK _ _ ?_; clear hK K
         refine Chain.sub (S' := mk 266 [1000, 2000] [(6, .b (r22.2 == 18))] [(1000, some (.box [.ref 25000 0 r22.1.buffer.length, .ref 25001 0 r22.1.disk.length, .ref 25002 0 r22.1.log.length, .i r22.1.flushed, .i r22.1.lastID, .ref 25005 0 r22.1.active.length, .ref 25006 0 r22.1.writer.length])), (2000, some (.box [.ref 45000 0 a1.Buffer.length, .ref 45001 0 a1.Disk.length, .ref 45002 0 a1.DiskLSN.length, .ref 45003 0 a1.Log.length, .i a1.Flushed, .i a1.LastID, .ref 45006 0 a1.Active.length])), (25000, R78 r22.1.buffer), (25001, R78 r22.1.disk), (25002, R80 r22.1.log), (25005, R3 r22.1.active), (25006, R3 r22.1.writer), (45000, R3 a1.Buffer), (45001, R3 a1.Disk), (45002, R3 a1.DiskLSN), (45003, R84 a1.Log), (45006, R3 a1.Active)]) Sub.tt ?_
         refine Chain.nil ?_
         refine AW.ret ?_
         cases h
         exact FinF.ret (by simp) (by simp)
        ·have c33_ : decide ((a1.Log.length : Int) ≥ 2000) = false := decide_eq_false c33
         refine AW.condF (b := decide ((a1.Log.length : Int) ≥ 2000)) rfl c33_ ?_
         refine AW.sub (Sub.bool 128 (b := decide ((a1.Log.length : Int) ≥ 2000)) rfl c33_) ?_
         refine AW.sub (S' := mk 266 [1000, 2000] [(1, .ptr 2000 0 0), (7, .ptr 7 0 0), (8, .i r2), (9, .i r3), (12, .i r22.2), (13, .i 0), (128, .b false)] [(7, some (.box [.i r1])), (1000, some (.box [.ref 25000 0 r22.1.buffer.length, .ref 25001 0 r22.1.disk.length, .ref 25002 0 r22.1.log.length, .i r22.1.flushed, .i r22.1.lastID, .ref 25005 0 r22.1.active.length, .ref 25006 0 r22.1.writer.length])), (2000, some (.box [.ref 45000 0 a1.Buffer.length, .ref 45001 0 a1.Disk.length, .ref 45002 0 a1.DiskLSN.length, .ref 45003 0 a1.Log.length, .i a1.Flushed, .i a1.LastID, .ref 45006 0 a1.Active.length])), (25000, R78 r22.1.buffer), (25001, R78 r22.1.disk), (25002, R80 r22.1.log), (25005, R3 r22.1.active), (25006, R3 r22.1.writer), (45000, R3 a1.Buffer), (45001, R3 a1.Disk), (45002, R3 a1.DiskLSN), (45003, R84 a1.Log), (45006, R3 a1.Active)]) (by simp; exact Sub.table (by simp) (by simp)) ?_
         replace h := bsome h; obtain ⟨x34, hx34, h⟩ := h
         obtain ⟨k35, hx34k, hx34, hx34a, hx34b⟩ := idx_some hx34
         refine AW.regionT 12 (by kernel_rfl) (by kernel_rfl) fun K hK => ?_; simp [hx34, hx34k, hx34a, hx34b]; refine hK _ _ ?_; clear hK K
         refine Chain.sub (S' := mk 266 [1000, 2000] [(12, .i r22.2), (13, .i 0), (97, .ptr 2000 0 0), (108, .agg [.i 1, .i r1, .i r2, .i x34, .i r3])] [(1000, some (.box [.ref 25000 0 r22.1.buffer.length, .ref 25001 0 r22.1.disk.length, .ref 25002 0 r22.1.log.length, .i r22.1.flushed, .i r22.1.lastID, .ref 25005 0 r22.1.active.length, .ref 25006 0 r22.1.writer.length])), (2000, some (.box [.ref 45000 0 a1.Buffer.length, .ref 45001 0 a1.Disk.length, .ref 45002 0 a1.DiskLSN.length, .ref 45003 0 a1.Log.length, .i a1.Flushed, .i a1.LastID, .ref 45006 0 a1.Active.length])), (25000, R78 r22.1.buffer), (25001, R78 r22.1.disk), (25002, R80 r22.1.log), (25005, R3 r22.1.active), (25006, R3 r22.1.writer), (45000, R3 a1.Buffer), (45001, R3 a1.Disk), (45002, R3 a1.DiskLSN), (45003, R84 a1.Log), (45006, R3 a1.Active)]) Sub.tt ?_
         replace h := bsome h; obtain ⟨r36, hr36, h⟩ := h
         refine Chain.callF (p27 N a1 (S84.mk 1 r1 r2 x34 r3) r36 hr36) [(2000, 1000), (45000, 25000), (45001, 25001), (45002, 25002), (45003, 25003), (45006, 25006)] [2000] [(1000, 2000), (25000, 45000), (25001, 45001), (25002, 45002), (25003, 45003), (25006, 45006)] [(2000, (.box [.ref 45000 0 r36.Buffer.length, .ref 45001 0 r36.Disk.length, .ref 45002 0 r36.DiskLSN.length, .ref 45003 0 r36.Log.length, .i r36.Flushed, .i r36.LastID, .ref 45006 0 r36.Active.length])), (45000, (.arr 3 1 (r36.Buffer.map (cI .i64)))), (45001, (.arr 3 1 (r36.Disk.map (cI .i64)))), (45002, (.arr 3 1 (r36.DiskLSN.map (cI .i64)))), (45003, (.arr 84 5 (r36.Log.map cS84))), (45006, (.arr 3 1 (r36.Active.map (cI .i64))))] (.tup []) (by simp) rfl (by simp <;> rfl) (by simp) (by simp) (by simp) (by simp) (by simp) ent27 (by simp) (by simp) (by simp) (by simp) (by simp) (by simp) ?_
         refine Chain.sub (S' := mk 266 [1000, 2000] [(12, .i r22.2), (13, .i 0), (97, .ptr 2000 0 0), (108, .agg [.i 1, .i r1, .i r2, .i x34, .i r3]), (109, .tup [])] [(1000, some (.box [.ref 25000 0 r22.1.buffer.length, .ref 25001 0 r22.1.disk.length, .ref 25002 0 r22.1.log.length, .i r22.1.flushed, .i r22.1.lastID, .ref 25005 0 r22.1.active.length, .ref 25006 0 r22.1.writer.length])), (2000, some (.box [.ref 45000 0 r36.Buffer.length, .ref 45001 0 r36.Disk.length, .ref 45002 0 r36.DiskLSN.length, .ref 45003 0 r36.Log.length, .i r36.Flushed, .i r36.LastID, .ref 45006 0 r36.Active.length])), (25000, R78 r22.1.buffer), (25001, R78 r22.1.disk), (25002, R80 r22.1.log), (25005, R3 r22.1.active), (25006, R3 r22.1.writer), (45000, R3 r36.Buffer), (45001, R3 r36.Disk), (45002, R3 r36.DiskLSN), (45003, R84 r36.Log), (45006, R3 r36.Active)]) (by simp; exact Sub.table (by simp) (by simp)) ?_
         refine Chain.nil ?_
         refine blockQ.normal ?_
         refine blockQ.normal ?_
         refine thenQ_normal ?_
         refine AW.seqR ?_
         refine Chain.runK [] 4 fun K hK => ?_; simp; refine hK _ _ ?_; clear hK K
         refine Chain.sub (S' := mk 266 [1000, 2000] [(6, .b (r22.2 == 0))] [(1000, some (.box [.ref 25000 0 r22.1.buffer.length, .ref 25001 0 r22.1.disk.length, .ref 25002 0 r22.1.log.length, .i r22.1.flushed, .i r22.1.lastID, .ref 25005 0 r22.1.active.length, .ref 25006 0 r22.1.writer.length])), (2000, some (.box [.ref 45000 0 r36.Buffer.length, .ref 45001 0 r36.Disk.length, .ref 45002 0 r36.DiskLSN.length, .ref 45003 0 r36.Log.length, .i r36.Flushed, .i r36.LastID, .ref 45006 0 r36.Active.length])), (25000, R78 r22.1.buffer), (25001, R78 r22.1.disk), (25002, R80 r22.1.log), (25005, R3 r22.1.active), (25006, R3 r22.1.writer), (45000, R3 r36.Buffer), (45001, R3 r36.Disk), (45002, R3 r36.DiskLSN), (45003, R84 r36.Log), (45006, R3 r36.Active)]) Sub.tt ?_
         refine Chain.nil ?_
         refine AW.ret ?_
         cases h
         exact FinF.ret (by simp) (by simp)
   ·have c21_ : (r12 == 2) = false := Bool.eq_false_iff.2 c21
    refine AW.condF (b := (r12 == 2)) rfl c21_ ?_
    refine AW.sub (Sub.bool 90 (b := (r12 == 2)) rfl c21_) ?_
    refine AW.sub (S' := mk 266 [1000, 2000] [(0, .ptr 1000 0 0), (1, .ptr 2000 0 0), (2, .d (.sl (a2.map (cI .i64)))), (7, .ptr 7 0 0), (8, .i r2), (9, .i r3), (10, .b v7), (11, .b v8), (12, .i 0), (13, .i 0), (44, .i r12), (90, .b false)] [(7, some (.box [.i r1])), (1000, some (.box [.ref 25000 0 a0.buffer.length, .ref 25001 0 a0.disk.length, .ref 25002 0 a0.log.length, .i a0.flushed, .i a0.lastID, .ref 25005 0 a0.active.length, .ref 25006 0 a0.writer.length])), (2000, some (.box [.ref 45000 0 a1.Buffer.length, .ref 45001 0 a1.Disk.length, .ref 45002 0 a1.DiskLSN.length, .ref 45003 0 a1.Log.length, .i a1.Flushed, .i a1.LastID, .ref 45006 0 a1.Active.length])), (25000, R78 a0.buffer), (25001, R78 a0.disk), (25002, R80 a0.log), (25005, R3 a0.active), (25006, R3 a0.writer), (45000, R3 a1.Buffer), (45001, R3 a1.Disk), (45002, R3 a1.DiskLSN), (45003, R84 a1.Log), (45006, R3 a1.Active)]) (by simp; exact Sub.table (by simp) (by simp)) ?_
    refine AW.seq ?_
    refine AW.seqR ?_
    refine Chain.runK [] 2 fun K hK => ?_; simp; refine hK _ _ ?_; clear hK K
    refine Chain.sub (S' := mk 266 [1000, 2000] [(0, .ptr 1000 0 0), (1, .ptr 2000 0 0), (2, .d (.sl (a2.map (cI .i64)))), (7, .ptr 7 0 0), (8, .i r2), (10, .b v7), (11, .b v8), (12, .i 0), (13, .i 0), (44, .i r12), (135, .b (r12 == 3))] [(7, some (.box [.i r1])), (1000, some (.box [.ref 25000 0 a0.buffer.length, .ref 25001 0 a0.disk.length, .ref 25002 0 a0.log.length, .i a0.flushed, .i a0.lastID, .ref 25005 0 a0.active.length, .ref 25006 0 a0.writer.length])), (2000, some (.box [.ref 45000 0 a1.Buffer.length, .ref 45001 0 a1.Disk.length, .ref 45002 0 a1.DiskLSN.length, .ref 45003 0 a1.Log.length, .i a1.Flushed, .i a1.LastID, .ref 45006 0 a1.Active.length])), (25000, R78 a0.buffer), (25001, R78 a0.disk), (25002, R80 a0.log), (25005, R3 a0.active), (25006, R3 a0.writer), (45000, R3 a1.Buffer), (45001, R3 a1.Disk), (45002, R3 a1.DiskLSN), (45003, R84 a1.Log), (45006, R3 a1.Active)]) Sub.tt ?_
    refine Chain.nil ?_
    refine AW.lastN (fun (v38 : Bool) => mk 266 [1000, 2000] [(0, .ptr 1000 0 0), (1, .ptr 2000 0 0), (2, .d (.sl (a2.map (cI .i64)))), (7, .ptr 7 0 0), (8, .i r2), (10, .b v7), (11, .b v8), (12, .i 0), (13, .i 0), (44, .i r12), (135, .b v38)] [(7, some (.box [.i r1])), (1000, some (.box [.ref 25000 0 a0.buffer.length, .ref 25001 0 a0.disk.length, .ref 25002 0 a0.log.length, .i a0.flushed, .i a0.lastID, .ref 25005 0 a0.active.length, .ref 25006 0 a0.writer.length])), (2000, some (.box [.ref 45000 0 a1.Buffer.length, .ref 45001 0 a1.Disk.length, .ref 45002 0 a1.DiskLSN.length, .ref 45003 0 a1.Log.length, .i a1.Flushed, .i a1.LastID, .ref 45006 0 a1.Active.length])), (25000, R78 a0.buffer), (25001, R78 a0.disk), (25002, R80 a0.log), (25005, R3 a0.active), (25006, R3 a0.writer), (45000, R3 a1.Buffer), (45001, R3 a1.Disk), (45002, R3 a1.DiskLSN), (45003, R84 a1.Log), (45006, R3 a1.Active)]) h ?_ ?_ <;> clear h
    ·intro o h
     replace h := isome h; rcases h with ⟨c39, h⟩ | ⟨c39, h⟩
     ·have c39_ : (r12 == 3) = true := c39
      refine AW.condT (b := (r12 == 3)) rfl c39_ ?_
      refine AW.sub (Sub.bool 135 (b := (r12 == 3)) rfl c39_) ?_
      refine AW.sub (S' := mk 266 [1000, 2000] [(0, .ptr 1000 0 0), (1, .ptr 2000 0 0), (2, .d (.sl (a2.map (cI .i64)))), (7, .ptr 7 0 0), (8, .i r2), (10, .b v7), (11, .b v8), (12, .i 0), (13, .i 0), (44, .i r12), (135, .b true)] [(7, some (.box [.i r1])), (1000, some (.box [.ref 25000 0 a0.buffer.length, .ref 25001 0 a0.disk.length, .ref 25002 0 a0.log.length, .i a0.flushed, .i a0.lastID, .ref 25005 0 a0.active.length, .ref 25006 0 a0.writer.length])), (2000, some (.box [.ref 45000 0 a1.Buffer.length, .ref 45001 0 a1.Disk.length, .ref 45002 0 a1.DiskLSN.length, .ref 45003 0 a1.Log.length, .i a1.Flushed, .i a1.LastID, .ref 45006 0 a1.Active.length])), (25000, R78 a0.buffer), (25001, R78 a0.disk), (25002, R80 a0.log), (25005, R3 a0.active), (25006, R3 a0.writer), (45000, R3 a1.Buffer), (45001, R3 a1.Disk), (45002, R3 a1.DiskLSN), (45003, R84 a1.Log), (45006, R3 a1.Active)]) (by simp; exact Sub.table (by simp) (by simp)) ?_
      refine AW.skip ?_
      cases h
      refine PostN.next ?_
      exact Sub.tt
     ·have c39_ : (r12 == 3) = false := Bool.eq_false_iff.2 c39
      refine AW.condF (b := (r12 == 3)) rfl c39_ ?_
      refine AW.sub (Sub.bool 135 (b := (r12 == 3)) rfl c39_) ?_
      refine AW.sub (S' := mk 266 [1000, 2000] [(0, .ptr 1000 0 0), (1, .ptr 2000 0 0), (2, .d (.sl (a2.map (cI .i64)))), (7, .ptr 7 0 0), (8, .i r2), (10, .b v7), (11, .b v8), (12, .i 0), (13, .i 0), (44, .i r12), (135, .b false)] [(7, some (.box [.i r1])), (1000, some (.box [.ref 25000 0 a0.buffer.length, .ref 25001 0 a0.disk.length, .ref 25002 0 a0.log.length, .i a0.flushed, .i a0.lastID, .ref 25005 0 a0.active.length, .ref 25006 0 a0.writer.length])), (2000, some (.box [.ref 45000 0 a1.Buffer.length, .ref 45001 0 a1.Disk.length, .ref 45002 0 a1.DiskLSN.length, .ref 45003 0 a1.Log.length, .i a1.Flushed, .i a1.LastID, .ref 45006 0 a1.Active.length])), (25000, R78 a0.buffer), (25001, R78 a0.disk), (25002, R80 a0.log), (25005, R3 a0.active), (25006, R3 a0.writer), (45000, R3 a1.Buffer), (45001, R3 a1.Disk), (45002, R3 a1.DiskLSN), (45003, R84 a1.Log), (45006, R3 a1.Active)]) (by simp; exact Sub.table (by simp) (by simp)) ?_
      refine AW.region ?_
      refine Chain.runK [] 2 fun K hK => ?_; simp; refine hK _ _ ?_; clear hK K
      refine Chain.sub (S' := mk 266 [1000, 2000] [(0, .ptr 1000 0 0), (1, .ptr 2000 0 0), (2, .d (.sl (a2.map (cI .i64)))), (7, .ptr 7 0 0), (8, .i r2), (10, .b v7), (11, .b v8), (12, .i 0), (13, .i 0), (44, .i r12), (135, .b (r12 == 4))] [(7, some (.box [.i r1])), (1000, some (.box [.ref 25000 0 a0.buffer.length, .ref 25001 0 a0.disk.length, .ref 25002 0 a0.log.length, .i a0.flushed, .i a0.lastID, .ref 25005 0 a0.active.length, .ref 25006 0 a0.writer.length])), (2000, some (.box [.ref 45000 0 a1.Buffer.length, .ref 45001 0 a1.Disk.length, .ref 45002 0 a1.DiskLSN.length, .ref 45003 0 a1.Log.length, .i a1.Flushed, .i a1.LastID, .ref 45006 0 a1.Active.length])), (25000, R78 a0.buffer), (25001, R78 a0.disk), (25002, R80 a0.log), (25005, R3 a0.active), (25006, R3 a0.writer), (45000, R3 a1.Buffer), (45001, R3 a1.Disk), (45002, R3 a1.DiskLSN), (45003, R84 a1.Log), (45006, R3 a1.Active)]) Sub.tt ?_
      refine Chain.nil ?_
      cases h
      refine PostN.next ?_
      exact Sub.tt
    ·rintro v38 h
     refine thenQ_normal ?_
     replace h := isome h; rcases h with ⟨c40, h⟩ | ⟨c40, h⟩
     ·have c40_ : v38 = true := c40
      refine AW.condT (b := v38) rfl c40_ ?_
      refine AW.sub (Sub.bool 135 (b := v38) rfl c40_) ?_
      refine AW.sub (S' := mk 266 [1000, 2000] [(0, .ptr 1000 0 0), (1, .ptr 2000 0 0), (2, .d (.sl (a2.map (cI .i64)))), (7, .ptr 7 0 0), (8, .i r2), (10, .b v7), (11, .b v8), (12, .i 0), (13, .i 0), (44, .i r12), (135, .b true)] [(7, some (.box [.i r1])), (1000, some (.box [.ref 25000 0 a0.buffer.length, .ref 25001 0 a0.disk.length, .ref 25002 0 a0.log.length, .i a0.flushed, .i a0.lastID, .ref 25005 0 a0.active.length, .ref 25006 0 a0.writer.length])), (2000, some (.box [.ref 45000 0 a1.Buffer.length, .ref 45001 0 a1.Disk.length, .ref 45002 0 a1.DiskLSN.length, .ref 45003 0 a1.Log.length, .i a1.Flushed, .i a1.LastID, .ref 45006 0 a1.Active.length])), (25000, R78 a0.buffer), (25001, R78 a0.disk), (25002, R80 a0.log), (25005, R3 a0.active), (25006, R3 a0.writer), (45000, R3 a1.Buffer), (45001, R3 a1.Disk), (45002, R3 a1.DiskLSN), (45003, R84 a1.Log), (45006, R3 a1.Active)]) (by simp; exact Sub.table (by simp) (by simp)) ?_
      refine AW.seq ?_
      refine AW.seqR ?_
      refine Chain.runK [] 1 fun K hK => ?_; simp; refine hK _ _ ?_; clear hK K
      refine Chain.sub (S' := mk 266 [1000, 2000] [(0, .ptr 1000 0 0), (1, .ptr 2000 0 0), (2, .d (.sl (a2.map (cI .i64)))), (7, .ptr 7 0 0), (11, .b v8), (13, .i 0), (138, .d (.sl (a2.map (cI .i64))))] [(7, some (.box [.i r1])), (1000, some (.box [.ref 25000 0 a0.buffer.length, .ref 25001 0 a0.disk.length, .ref 25002 0 a0.log.length, .i a0.flushed, .i a0.lastID, .ref 25005 0 a0.active.length, .ref 25006 0 a0.writer.length])), (2000, some (.box [.ref 45000 0 a1.Buffer.length, .ref 45001 0 a1.Disk.length, .ref 45002 0 a1.DiskLSN.length, .ref 45003 0 a1.Log.length, .i a1.Flushed, .i a1.LastID, .ref 45006 0 a1.Active.length])), (25000, R78 a0.buffer), (25001, R78 a0.disk), (25002, R80 a0.log), (25005, R3 a0.active), (25006, R3 a0.writer), (45000, R3 a1.Buffer), (45001, R3 a1.Disk), (45002, R3 a1.DiskLSN), (45003, R84 a1.Log), (45006, R3 a1.Active)]) Sub.tt ?_
      replace h := bsome h; obtain ⟨r41, hr41, h⟩ := h
      refine Chain.callL (d := 139) (p9 N a2 0 r41 hr41) (by simp) rfl rfl (by simp <;> rfl) (by simp <;> rfl) ent9 (by simp <;> rfl) ?_
      refine Chain.sub (S' := mk 266 [1000, 2000] [(0, .ptr 1000 0 0), (1, .ptr 2000 0 0), (2, .d (.sl (a2.map (cI .i64)))), (7, .ptr 7 0 0), (11, .b v8), (13, .i 0), (138, .d (.sl (a2.map (cI .i64)))), (139, .i r41)] [(7, some (.box [.i r1])), (1000, some (.box [.ref 25000 0 a0.buffer.length, .ref 25001 0 a0.disk.length, .ref 25002 0 a0.log.length, .i a0.flushed, .i a0.lastID, .ref 25005 0 a0.active.length, .ref 25006 0 a0.writer.length])), (2000, some (.box [.ref 45000 0 a1.Buffer.length, .ref 45001 0 a1.Disk.length, .ref 45002 0 a1.DiskLSN.length, .ref 45003 0 a1.Log.length, .i a1.Flushed, .i a1.LastID, .ref 45006 0 a1.Active.length])), (25000, R78 a0.buffer), (25001, R78 a0.disk), (25002, R80 a0.log), (25005, R3 a0.active), (25006, R3 a0.writer), (45000, R3 a1.Buffer), (45001, R3 a1.Disk), (45002, R3 a1.DiskLSN), (45003, R84 a1.Log), (45006, R3 a1.Active)]) (by simp; exact Sub.table (by simp) (by simp)) ?_
      refine Chain.runK [] 1 fun K hK => ?_; simp; refine hK _ _ ?_; clear hK K
      refine Chain.sub (S' := mk 266 [1000, 2000] [(0, .ptr 1000 0 0), (1, .ptr 2000 0 0), (2, .d (.sl (a2.map (cI .i64)))), (7, .ptr 7 0 0), (11, .b v8), (13, .i 0), (140, .b (r41 == 3))] [(7, some (.box [.i r1])), (1000, some (.box [.ref 25000 0 a0.buffer.length, .ref 25001 0 a0.disk.length, .ref 25002 0 a0.log.length, .i a0.flushed, .i a0.lastID, .ref 25005 0 a0.active.length, .ref 25006 0 a0.writer.length])), (2000, some (.box [.ref 45000 0 a1.Buffer.length, .ref 45001 0 a1.Disk.length, .ref 45002 0 a1.DiskLSN.length, .ref 45003 0 a1.Log.length, .i a1.Flushed, .i a1.LastID, .ref 45006 0 a1.Active.length])), (25000, R78 a0.buffer), (25001, R78 a0.disk), (25002, R80 a0.log), (25005, R3 a0.active), (25006, R3 a0.writer), (45000, R3 a1.Buffer), (45001, R3 a1.Disk), (45002, R3 a1.DiskLSN), (45003, R84 a1.Log), (45006, R3 a1.Active)]) Sub.tt ?_
      refine Chain.nil ?_
      refine AW.lastN (fun ((v45, l46, l47, l48, v49, v50, l51, l52) : (Int × (List S78) × (List S78) × (List S80) × Int × Int × (List Int) × (List Int))) => mk 266 [1000, 2000] [(1, .ptr 2000 0 0), (2, .d (.sl (a2.map (cI .i64)))), (7, .ptr 7 0 0), (11, .b v8), (12, .i v45), (13, .i 0)] [(7, some (.box [.i r1])), (1000, some (.box [.ref 25000 0 l46.length, .ref 25001 0 l47.length, .ref 25002 0 l48.length, .i v49, .i v50, .ref 25005 0 l51.length, .ref 25006 0 l52.length])), (2000, some (.box [.ref 45000 0 a1.Buffer.length, .ref 45001 0 a1.Disk.length, .ref 45002 0 a1.DiskLSN.length, .ref 45003 0 a1.Log.length, .i a1.Flushed, .i a1.LastID, .ref 45006 0 a1.Active.length])), (25000, R78 l46), (25001, R78 l47), (25002, R80 l48), (25005, R3 l51), (25006, R3 l52), (45000, R3 a1.Buffer), (45001, R3 a1.Disk), (45002, R3 a1.DiskLSN), (45003, R84 a1.Log), (45006, R3 a1.Active)]) h ?_ ?_ <;> clear h
      ·intro o h
       replace h := isome h; rcases h with ⟨c53, h⟩ | ⟨c53, h⟩
       ·have c53_ : (r41 == 3) = true := c53
        refine AW.condT (b := (r41 == 3)) rfl c53_ ?_
        refine AW.sub (Sub.bool 140 (b := (r41 == 3)) rfl c53_) ?_
        refine AW.sub (S' := mk 266 [1000, 2000] [(0, .ptr 1000 0 0), (1, .ptr 2000 0 0), (2, .d (.sl (a2.map (cI .i64)))), (7, .ptr 7 0 0), (11, .b v8), (13, .i 0), (140, .b true)] [(7, some (.box [.i r1])), (1000, some (.box [.ref 25000 0 a0.buffer.length, .ref 25001 0 a0.disk.length, .ref 25002 0 a0.log.length, .i a0.flushed, .i a0.lastID, .ref 25005 0 a0.active.length, .ref 25006 0 a0.writer.length])), (2000, some (.box [.ref 45000 0 a1.Buffer.length, .ref 45001 0 a1.Disk.length, .ref 45002 0 a1.DiskLSN.length, .ref 45003 0 a1.Log.length, .i a1.Flushed, .i a1.LastID, .ref 45006 0 a1.Active.length])), (25000, R78 a0.buffer), (25001, R78 a0.disk), (25002, R80 a0.log), (25005, R3 a0.active), (25006, R3 a0.writer), (45000, R3 a1.Buffer), (45001, R3 a1.Disk), (45002, R3 a1.DiskLSN), (45003, R84 a1.Log), (45006, R3 a1.Active)]) (by simp; exact Sub.table (by simp) (by simp)) ?_
        refine AW.region ?_
        refine Chain.runK [] 2 fun K hK => ?_; simp; refine hK _ _ ?_; clear hK K
        refine Chain.sub (S' := mk 266 [1000, 2000] [(1, .ptr 2000 0 0), (2, .d (.sl (a2.map (cI .i64)))), (7, .ptr 7 0 0), (11, .b v8), (13, .i 0), (141, .ptr 1000 0 0), (142, .i r1)] [(7, some (.box [.i r1])), (1000, some (.box [.ref 25000 0 a0.buffer.length, .ref 25001 0 a0.disk.length, .ref 25002 0 a0.log.length, .i a0.flushed, .i a0.lastID, .ref 25005 0 a0.active.length, .ref 25006 0 a0.writer.length])), (2000, some (.box [.ref 45000 0 a1.Buffer.length, .ref 45001 0 a1.Disk.length, .ref 45002 0 a1.DiskLSN.length, .ref 45003 0 a1.Log.length, .i a1.Flushed, .i a1.LastID, .ref 45006 0 a1.Active.length])), (25000, R78 a0.buffer), (25001, R78 a0.disk), (25002, R80 a0.log), (25005, R3 a0.active), (25006, R3 a0.writer), (45000, R3 a1.Buffer), (45001, R3 a1.Disk), (45002, R3 a1.DiskLSN), (45003, R84 a1.Log), (45006, R3 a1.Active)]) Sub.tt ?_
        replace h := bsome h; obtain ⟨r54, hr54, h⟩ := h
        refine Chain.callF (p28 N a0 r1 r54 hr54) [(1000, 1000), (25000, 25000), (25001, 25001), (25002, 25002), (25005, 25005), (25006, 25006)] [1000] [(1000, 1000), (25000, 25000), (25001, 25001), (25002, 25002), (25005, 25005), (25006, 25006)] [(1000, (.box [.ref 25000 0 r54.1.buffer.length, .ref 25001 0 r54.1.disk.length, .ref 25002 0 r54.1.log.length, .d (.lit (.int .i64 r54.1.flushed)), .d (.lit (.int .i64 r54.1.lastID)), .ref 25005 0 r54.1.active.length, .ref 25006 0 r54.1.writer.length])), (25000, (.arr 78 2 (r54.1.buffer.map cS78))), (25001, (.arr 78 2 (r54.1.disk.map cS78))), (25002, (.arr 80 5 (r54.1.log.map cS80))), (25005, (.arr 3 1 (r54.1.active.map (cI .i64)))), (25006, (.arr 3 1 (r54.1.writer.map (cI .i64))))] (.d (.lit (.int .i64 r54.2))) (by simp) rfl (by simp <;> rfl) (by simp) (by simp) (by simp) (by simp) (by simp) ent28 (by simp) (by simp) (by simp) (by simp) (by simp) (by simp) ?_
        refine Chain.sub (S' := mk 266 [1000, 2000] [(1, .ptr 2000 0 0), (2, .d (.sl (a2.map (cI .i64)))), (7, .ptr 7 0 0), (11, .b v8), (13, .i 0), (141, .ptr 1000 0 0), (142, .i r1), (143, .i r54.2)] [(7, some (.box [.i r1])), (1000, some (.box [.ref 25000 0 r54.1.buffer.length, .ref 25001 0 r54.1.disk.length, .ref 25002 0 r54.1.log.length, .i r54.1.flushed, .i r54.1.lastID, .ref 25005 0 r54.1.active.length, .ref 25006 0 r54.1.writer.length])), (2000, some (.box [.ref 45000 0 a1.Buffer.length, .ref 45001 0 a1.Disk.length, .ref 45002 0 a1.DiskLSN.length, .ref 45003 0 a1.Log.length, .i a1.Flushed, .i a1.LastID, .ref 45006 0 a1.Active.length])), (25000, R78 r54.1.buffer), (25001, R78 r54.1.disk), (25002, R80 r54.1.log), (25005, R3 r54.1.active), (25006, R3 r54.1.writer), (45000, R3 a1.Buffer), (45001, R3 a1.Disk), (45002, R3 a1.DiskLSN), (45003, R84 a1.Log), (45006, R3 a1.Active)]) (by simp; exact Sub.table (by simp) (by simp)) ?_
        refine Chain.runK [] 1 fun K hK => ?_; simp; refine hK _ _ ?_; clear hK K
        refine Chain.sub (S' := mk 266 [1000, 2000] [(1, .ptr 2000 0 0), (2, .d (.sl (a2.map (cI .i64)))), (7, .ptr 7 0 0), (11, .b v8), (12, .i r54.2), (13, .i 0)] [(7, some (.box [.i r1])), (1000, some (.box [.ref 25000 0 r54.1.buffer.length, .ref 25001 0 r54.1.disk.length, .ref 25002 0 r54.1.log.length, .i r54.1.flushed, .i r54.1.lastID, .ref 25005 0 r54.1.active.length, .ref 25006 0 r54.1.writer.length])), (2000, some (.box [.ref 45000 0 a1.Buffer.length, .ref 45001 0 a1.Disk.length, .ref 45002 0 a1.DiskLSN.length, .ref 45003 0 a1.Log.length, .i a1.Flushed, .i a1.LastID, .ref 45006 0 a1.Active.length])), (25000, R78 r54.1.buffer), (25001, R78 r54.1.disk), (25002, R80 r54.1.log), (25005, R3 r54.1.active), (25006, R3 r54.1.writer), (45000, R3 a1.Buffer), (45001, R3 a1.Disk), (45002, R3 a1.DiskLSN), (45003, R84 a1.Log), (45006, R3 a1.Active)]) Sub.tt ?_
        refine Chain.nil ?_
        cases h
        refine PostN.next ?_
        exact Sub.tt
       ·have c53_ : (r41 == 3) = false := Bool.eq_false_iff.2 c53
        refine AW.condF (b := (r41 == 3)) rfl c53_ ?_
        refine AW.sub (Sub.bool 140 (b := (r41 == 3)) rfl c53_) ?_
        refine AW.sub (S' := mk 266 [1000, 2000] [(0, .ptr 1000 0 0), (1, .ptr 2000 0 0), (2, .d (.sl (a2.map (cI .i64)))), (7, .ptr 7 0 0), (11, .b v8), (13, .i 0), (140, .b false)] [(7, some (.box [.i r1])), (1000, some (.box [.ref 25000 0 a0.buffer.length, .ref 25001 0 a0.disk.length, .ref 25002 0 a0.log.length, .i a0.flushed, .i a0.lastID, .ref 25005 0 a0.active.length, .ref 25006 0 a0.writer.length])), (2000, some (.box [.ref 45000 0 a1.Buffer.length, .ref 45001 0 a1.Disk.length, .ref 45002 0 a1.DiskLSN.length, .ref 45003 0 a1.Log.length, .i a1.Flushed, .i a1.LastID, .ref 45006 0 a1.Active.length])), (25000, R78 a0.buffer), (25001, R78 a0.disk), (25002, R80 a0.log), (25005, R3 a0.active), (25006, R3 a0.writer), (45000, R3 a1.Buffer), (45001, R3 a1.Disk), (45002, R3 a1.DiskLSN), (45003, R84 a1.Log), (45006, R3 a1.Active)]) (by simp; exact Sub.table (by simp) (by simp)) ?_
        refine AW.region ?_
        refine Chain.runK [] 2 fun K hK => ?_; simp; refine hK _ _ ?_; clear hK K
        refine Chain.sub (S' := mk 266 [1000, 2000] [(1, .ptr 2000 0 0), (2, .d (.sl (a2.map (cI .i64)))), (7, .ptr 7 0 0), (11, .b v8), (13, .i 0), (144, .ptr 1000 0 0), (145, .i r1)] [(7, some (.box [.i r1])), (1000, some (.box [.ref 25000 0 a0.buffer.length, .ref 25001 0 a0.disk.length, .ref 25002 0 a0.log.length, .i a0.flushed, .i a0.lastID, .ref 25005 0 a0.active.length, .ref 25006 0 a0.writer.length])), (2000, some (.box [.ref 45000 0 a1.Buffer.length, .ref 45001 0 a1.Disk.length, .ref 45002 0 a1.DiskLSN.length, .ref 45003 0 a1.Log.length, .i a1.Flushed, .i a1.LastID, .ref 45006 0 a1.Active.length])), (25000, R78 a0.buffer), (25001, R78 a0.disk), (25002, R80 a0.log), (25005, R3 a0.active), (25006, R3 a0.writer), (45000, R3 a1.Buffer), (45001, R3 a1.Disk), (45002, R3 a1.DiskLSN), (45003, R84 a1.Log), (45006, R3 a1.Active)]) Sub.tt ?_
        replace h := bsome h; obtain ⟨r55, hr55, h⟩ := h
        refine Chain.callF (p29 N a0 r1 r55 hr55) [(1000, 1000), (25000, 25000), (25001, 25001), (25002, 25002), (25005, 25005), (25006, 25006)] [1000] [(1000, 1000), (25000, 25000), (25001, 25001), (25002, 25002), (25005, 25005), (25006, 25006)] [(1000, (.box [.ref 25000 0 r55.1.buffer.length, .ref 25001 0 r55.1.disk.length, .ref 25002 0 r55.1.log.length, .d (.lit (.int .i64 r55.1.flushed)), .d (.lit (.int .i64 r55.1.lastID)), .ref 25005 0 r55.1.active.length, .ref 25006 0 r55.1.writer.length])), (25000, (.arr 78 2 (r55.1.buffer.map cS78))), (25001, (.arr 78 2 (r55.1.disk.map cS78))), (25002, (.arr 80 5 (r55.1.log.map cS80))), (25005, (.arr 3 1 (r55.1.active.map (cI .i64)))), (25006, (.arr 3 1 (r55.1.writer.map (cI .i64))))] (.d (.lit (.int .i64 r55.2))) (by simp) rfl (by simp <;> rfl) (by simp) (by simp) (by simp) (by simp) (by simp) ent29 (by simp) (by simp) (by simp) (by simp) (by simp) (by simp) ?_
        refine Chain.sub (S' := mk 266 [1000, 2000] [(1, .ptr 2000 0 0), (2, .d (.sl (a2.map (cI .i64)))), (7, .ptr 7 0 0), (11, .b v8), (13, .i 0), (144, .ptr 1000 0 0), (145, .i r1), (146, .i r55.2)] [(7, some (.box [.i r1])), (1000, some (.box [.ref 25000 0 r55.1.buffer.length, .ref 25001 0 r55.1.disk.length, .ref 25002 0 r55.1.log.length, .i r55.1.flushed, .i r55.1.lastID, .ref 25005 0 r55.1.active.length, .ref 25006 0 r55.1.writer.length])), (2000, some (.box [.ref 45000 0 a1.Buffer.length, .ref 45001 0 a1.Disk.length, .ref 45002 0 a1.DiskLSN.length, .ref 45003 0 a1.Log.length, .i a1.Flushed, .i a1.LastID, .ref 45006 0 a1.Active.length])), (25000, R78 r55.1.buffer), (25001, R78 r55.1.disk), (25002, R80 r55.1.log), (25005, R3 r55.1.active), (25006, R3 r55.1.writer), (45000, R3 a1.Buffer), (45001, R3 a1.Disk), (45002, R3 a1.DiskLSN), (45003, R84 a1.Log), (45006, R3 a1.Active)]) (by simp; exact Sub.table (by simp) (by simp)) ?_
        refine Chain.runK [] 1 fun K hK => ?_; simp; refine hK _ _ ?_; clear hK K
        refine Chain.sub (S' := mk 266 [1000, 2000] [(1, .ptr 2000 0 0), (2, .d (.sl (a2.map (cI .i64)))), (7, .ptr 7 0 0), (11, .b v8), (12, .i r55.2), (13, .i 0)] [(7, some (.box [.i r1])), (1000, some (.box [.ref 25000 0 r55.1.buffer.length, .ref 25001 0 r55.1.disk.length, .ref 25002 0 r55.1.log.length, .i r55.1.flushed, .i r55.1.lastID, .ref 25005 0 r55.1.active.length, .ref 25006 0 r55.1.writer.length])), (2000, some (.box [.ref 45000 0 a1.Buffer.length, .ref 45001 0 a1.Disk.length, .ref 45002 0 a1.DiskLSN.length, .ref 45003 0 a1.Log.length, .i a1.Flushed, .i a1.LastID, .ref 45006 0 a1.Active.length])), (25000, R78 r55.1.buffer), (25001, R78 r55.1.disk), (25002, R80 r55.1.log), (25005, R3 r55.1.active), (25006, R3 r55.1.writer), (45000, R3 a1.Buffer), (45001, R3 a1.Disk), (45002, R3 a1.DiskLSN), (45003, R84 a1.Log), (45006, R3 a1.Active)]) Sub.tt ?_
        refine Chain.nil ?_
        cases h
        refine PostN.next ?_
        exact Sub.tt
      ·rintro ⟨v45, l46, l47, l48, v49, v50, l51, l52⟩ h
       dsimp only at h ⊢
       refine thenQ_normal ?_
       refine AW.block ?_
       refine AW.seqR ?_
       refine Chain.runK [] 3 fun K hK => ?_; simp; refine hK _ _ ?_; clear hK K
       refine Chain.sub (S' := mk 266 [1000, 2000] [(1, .ptr 2000 0 0), (2, .d (.sl (a2.map (cI .i64)))), (7, .ptr 7 0 0), (12, .i v45), (13, .i 0), (168, .b (!v8))] [(7, some (.box [.i r1])), (1000, some (.box [.ref 25000 0 l46.length, .ref 25001 0 l47.length, .ref 25002 0 l48.length, .i v49, .i v50, .ref 25005 0 l51.length, .ref 25006 0 l52.length])), (2000, some (.box [.ref 45000 0 a1.Buffer.length, .ref 45001 0 a1.Disk.length, .ref 45002 0 a1.DiskLSN.length, .ref 45003 0 a1.Log.length, .i a1.Flushed, .i a1.LastID, .ref 45006 0 a1.Active.length])), (25000, R78 l46), (25001, R78 l47), (25002, R80 l48), (25005, R3 l51), (25006, R3 l52), (45000, R3 a1.Buffer), (45001, R3 a1.Disk), (45002, R3 a1.DiskLSN), (45003, R84 a1.Log), (45006, R3 a1.Active)]) Sub.tt ?_
       refine Chain.nil ?_
       replace h := isome h; rcases h with ⟨c56, h⟩ | ⟨c56, h⟩
       ·have c56_ : (!v8) = true := c56
        refine AW.condT (b := (!v8)) rfl c56_ ?_
        refine AW.sub (Sub.bool 168 (b := (!v8)) rfl c56_) ?_
        refine AW.sub (S' := mk 266 [1000, 2000] [(1, .ptr 2000 0 0), (2, .d (.sl (a2.map (cI .i64)))), (7, .ptr 7 0 0), (12, .i v45), (13, .i 0), (168, .b true)] [(7, some (.box [.i r1])), (1000, some (.box [.ref 25000 0 l46.length, .ref 25001 0 l47.length, .ref 25002 0 l48.length, .i v49, .i v50, .ref 25005 0 l51.length, .ref 25006 0 l52.length])), (2000, some (.box [.ref 45000 0 a1.Buffer.length, .ref 45001 0 a1.Disk.length, .ref 45002 0 a1.DiskLSN.length, .ref 45003 0 a1.Log.length, .i a1.Flushed, .i a1.LastID, .ref 45006 0 a1.Active.length])), (25000, R78 l46), (25001, R78 l47), (25002, R80 l48), (25005, R3 l51), (25006, R3 l52), (45000, R3 a1.Buffer), (45001, R3 a1.Disk), (45002, R3 a1.DiskLSN), (45003, R84 a1.Log), (45006, R3 a1.Active)]) (by simp; exact Sub.table (by simp) (by simp)) ?_
        refine AW.region ?_
        refine Chain.runK [] 1 fun K hK => ?_; simp; refine hK _ _ ?_; clear hK K
        refine Chain.sub (S' := mk 266 [1000, 2000] [(12, .i v45), (13, .i 4)] [(1000, some (.box [.ref 25000 0 l46.length, .ref 25001 0 l47.length, .ref 25002 0 l48.length, .i v49, .i v50, .ref 25005 0 l51.length, .ref 25006 0 l52.length])), (2000, some (.box [.ref 45000 0 a1.Buffer.length, .ref 45001 0 a1.Disk.length, .ref 45002 0 a1.DiskLSN.length, .ref 45003 0 a1.Log.length, .i a1.Flushed, .i a1.LastID, .ref 45006 0 a1.Active.length])), (25000, R78 l46), (25001, R78 l47), (25002, R80 l48), (25005, R3 l51), (25006, R3 l52), (45000, R3 a1.Buffer), (45001, R3 a1.Disk), (45002, R3 a1.DiskLSN), (45003, R84 a1.Log), (45006, R3 a1.Active)]) Sub.tt ?_
        refine Chain.nil ?_
        refine blockQ.normal ?_
        refine blockQ.normal ?_
        refine thenQ_normal ?_
        refine AW.seqR ?_
        refine Chain.runK [] 4 fun K hK => ?_; simp; refine hK _ _ ?_; clear hK K
        refine Chain.sub (S' := mk 266 [1000, 2000] [(6, .b (v45 == 4))] [(1000, some (.box [.ref 25000 0 l46.length, .ref 25001 0 l47.length, .ref 25002 0 l48.length, .i v49, .i v50, .ref 25005 0 l51.length, .ref 25006 0 l52.length])), (2000, some (.box [.ref 45000 0 a1.Buffer.length, .ref 45001 0 a1.Disk.length, .ref 45002 0 a1.DiskLSN.length, .ref 45003 0 a1.Log.length, .i a1.Flushed, .i a1.LastID, .ref 45006 0 a1.Active.length])), (25000, R78 l46), (25001, R78 l47), (25002, R80 l48), (25005, R3 l51), (25006, R3 l52), (45000, R3 a1.Buffer), (45001, R3 a1.Disk), (45002, R3 a1.DiskLSN), (45003, R84 a1.Log), (45006, R3 a1.Active)]) Sub.tt ?_
        refine Chain.nil ?_
        refine AW.ret ?_
        cases h
        exact FinF.ret (by simp) (by simp)
       ·have c56_ : (!v8) = false := Bool.eq_false_iff.2 c56
        refine AW.condF (b := (!v8)) rfl c56_ ?_
        refine AW.sub (Sub.bool 168 (b := (!v8)) rfl c56_) ?_
        refine AW.sub (S' := mk 266 [1000, 2000] [(1, .ptr 2000 0 0), (2, .d (.sl (a2.map (cI .i64)))), (7, .ptr 7 0 0), (12, .i v45), (13, .i 0), (168, .b false)] [(7, some (.box [.i r1])), (1000, some (.box [.ref 25000 0 l46.length, .ref 25001 0 l47.length, .ref 25002 0 l48.length, .i v49, .i v50, .ref 25005 0 l51.length, .ref 25006 0 l52.length])), (2000, some (.box [.ref 45000 0 a1.Buffer.length, .ref 45001 0 a1.Disk.length, .ref 45002 0 a1.DiskLSN.length, .ref 45003 0 a1.Log.length, .i a1.Flushed, .i a1.LastID, .ref 45006 0 a1.Active.length])), (25000, R78 l46), (25001, R78 l47), (25002, R80 l48), (25005, R3 l51), (25006, R3 l52), (45000, R3 a1.Buffer), (45001, R3 a1.Disk), (45002, R3 a1.DiskLSN), (45003, R84 a1.Log), (45006, R3 a1.Active)]) (by simp; exact Sub.table (by simp) (by simp)) ?_
        refine AW.seqR ?_
        refine Chain.runK [] 1 fun K hK => ?_; simp; refine hK _ _ ?_; clear hK K
        refine Chain.sub (S' := mk 266 [1000, 2000] [(1, .ptr 2000 0 0), (7, .ptr 7 0 0), (12, .i v45), (13, .i 0), (172, .d (.sl (a2.map (cI .i64))))] [(7, some (.box [.i r1])), (1000, some (.box [.ref 25000 0 l46.length, .ref 25001 0 l47.length, .ref 25002 0 l48.length, .i v49, .i v50, .ref 25005 0 l51.length, .ref 25006 0 l52.length])), (2000, some (.box [.ref 45000 0 a1.Buffer.length, .ref 45001 0 a1.Disk.length, .ref 45002 0 a1.DiskLSN.length, .ref 45003 0 a1.Log.length, .i a1.Flushed, .i a1.LastID, .ref 45006 0 a1.Active.length])), (25000, R78 l46), (25001, R78 l47), (25002, R80 l48), (25005, R3 l51), (25006, R3 l52), (45000, R3 a1.Buffer), (45001, R3 a1.Disk), (45002, R3 a1.DiskLSN), (45003, R84 a1.Log), (45006, R3 a1.Active)]) Sub.tt ?_
        replace h := bsome h; obtain ⟨r57, hr57, h⟩ := h
        refine Chain.callL (d := 173) (p9 N a2 0 r57 hr57) (by simp) rfl rfl (by simp <;> rfl) (by simp <;> rfl) ent9 (by simp <;> rfl) ?_
        refine Chain.sub (S' := mk 266 [1000, 2000] [(1, .ptr 2000 0 0), (7, .ptr 7 0 0), (12, .i v45), (13, .i 0), (172, .d (.sl (a2.map (cI .i64)))), (173, .i r57)] [(7, some (.box [.i r1])), (1000, some (.box [.ref 25000 0 l46.length, .ref 25001 0 l47.length, .ref 25002 0 l48.length, .i v49, .i v50, .ref 25005 0 l51.length, .ref 25006 0 l52.length])), (2000, some (.box [.ref 45000 0 a1.Buffer.length, .ref 45001 0 a1.Disk.length, .ref 45002 0 a1.DiskLSN.length, .ref 45003 0 a1.Log.length, .i a1.Flushed, .i a1.LastID, .ref 45006 0 a1.Active.length])), (25000, R78 l46), (25001, R78 l47), (25002, R80 l48), (25005, R3 l51), (25006, R3 l52), (45000, R3 a1.Buffer), (45001, R3 a1.Disk), (45002, R3 a1.DiskLSN), (45003, R84 a1.Log), (45006, R3 a1.Active)]) (by simp; exact Sub.table (by simp) (by simp)) ?_
        refine Chain.runK [] 2 fun K hK => ?_; simp; refine hK _ _ ?_; clear hK K
        refine Chain.sub (S' := mk 266 [1000, 2000] [(1, .ptr 2000 0 0), (7, .ptr 7 0 0), (12, .i v45), (13, .i 0), (171, .b (r57 == 4))] [(7, some (.box [.i r1])), (1000, some (.box [.ref 25000 0 l46.length, .ref 25001 0 l47.length, .ref 25002 0 l48.length, .i v49, .i v50, .ref 25005 0 l51.length, .ref 25006 0 l52.length])), (2000, some (.box [.ref 45000 0 a1.Buffer.length, .ref 45001 0 a1.Disk.length, .ref 45002 0 a1.DiskLSN.length, .ref 45003 0 a1.Log.length, .i a1.Flushed, .i a1.LastID, .ref 45006 0 a1.Active.length])), (25000, R78 l46), (25001, R78 l47), (25002, R80 l48), (25005, R3 l51), (25006, R3 l52), (45000, R3 a1.Buffer), (45001, R3 a1.Disk), (45002, R3 a1.DiskLSN), (45003, R84 a1.Log), (45006, R3 a1.Active)]) Sub.tt ?_
        refine Chain.nil ?_
        replace h := isome h; rcases h with ⟨c58, h⟩ | ⟨c58, h⟩
        ·have c58_ : (r57 == 4) = true := c58
         refine AW.condT (b := (r57 == 4)) rfl c58_ ?_
         refine AW.sub (Sub.bool 171 (b := (r57 == 4)) rfl c58_) ?_
         refine AW.sub (S' := mk 266 [1000, 2000] [(1, .ptr 2000 0 0), (7, .ptr 7 0 0), (12, .i v45), (13, .i 0), (171, .b true)] [(7, some (.box [.i r1])), (1000, some (.box [.ref 25000 0 l46.length, .ref 25001 0 l47.length, .ref 25002 0 l48.length, .i v49, .i v50, .ref 25005 0 l51.length, .ref 25006 0 l52.length])), (2000, some (.box [.ref 45000 0 a1.Buffer.length, .ref 45001 0 a1.Disk.length, .ref 45002 0 a1.DiskLSN.length, .ref 45003 0 a1.Log.length, .i a1.Flushed, .i a1.LastID, .ref 45006 0 a1.Active.length])), (25000, R78 l46), (25001, R78 l47), (25002, R80 l48), (25005, R3 l51), (25006, R3 l52), (45000, R3 a1.Buffer), (45001, R3 a1.Disk), (45002, R3 a1.DiskLSN), (45003, R84 a1.Log), (45006, R3 a1.Active)]) (by simp; exact Sub.table (by simp) (by simp)) ?_
         refine AW.region ?_
         refine Chain.runK [] 2 fun K hK => ?_; simp; refine hK _ _ ?_; clear hK K
         refine Chain.sub (S' := mk 266 [1000, 2000] [(12, .i v45), (13, .i 0), (175, .ptr 2000 0 0), (176, .i r1)] [(1000, some (.box [.ref 25000 0 l46.length, .ref 25001 0 l47.length, .ref 25002 0 l48.length, .i v49, .i v50, .ref 25005 0 l51.length, .ref 25006 0 l52.length])), (2000, some (.box [.ref 45000 0 a1.Buffer.length, .ref 45001 0 a1.Disk.length, .ref 45002 0 a1.DiskLSN.length, .ref 45003 0 a1.Log.length, .i a1.Flushed, .i a1.LastID, .ref 45006 0 a1.Active.length])), (25000, R78 l46), (25001, R78 l47), (25002, R80 l48), (25005, R3 l51), (25006, R3 l52), (45000, R3 a1.Buffer), (45001, R3 a1.Disk), (45002, R3 a1.DiskLSN), (45003, R84 a1.Log), (45006, R3 a1.Active)]) Sub.tt ?_
         replace h := bsome h; obtain ⟨r59, hr59, h⟩ := h
         refine Chain.callF (p30 N a1 r1 r59 hr59) [(2000, 1000), (45000, 25000), (45001, 25001), (45002, 25002), (45003, 25003), (45006, 25006)] [2000] [(1000, 2000), (25000, 45000), (25001, 45001), (25002, 45002), (25003, 45003), (25006, 45006)] [(2000, (.box [.ref 45000 0 r59.1.Buffer.length, .ref 45001 0 r59.1.Disk.length, .ref 45002 0 r59.1.DiskLSN.length, .ref 45003 0 r59.1.Log.length, .d (.lit (.int .i64 r59.1.Flushed)), .d (.lit (.int .i64 r59.1.LastID)), .ref 45006 0 r59.1.Active.length])), (45000, (.arr 3 1 (r59.1.Buffer.map (cI .i64)))), (45001, (.arr 3 1 (r59.1.Disk.map (cI .i64)))), (45002, (.arr 3 1 (r59.1.DiskLSN.map (cI .i64)))), (45003, (.arr 84 5 (r59.1.Log.map cS84))), (45006, (.arr 3 1 (r59.1.Active.map (cI .i64))))] (.d (.lit (.int .i64 r59.2))) (by simp) rfl (by simp <;> rfl) (by simp) (by simp) (by simp) (by simp) (by simp) ent30 (by simp) (by simp) (by simp) (by simp) (by simp) (by simp) ?_
         refine Chain.sub (S' := mk 266 [1000, 2000] [(12, .i v45), (13, .i 0), (175, .ptr 2000 0 0), (176, .i r1), (177, .i r59.2)] [(1000, some (.box [.ref 25000 0 l46.length, .ref 25001 0 l47.length, .ref 25002 0 l48.length, .i v49, .i v50, .ref 25005 0 l51.length, .ref 25006 0 l52.length])), (2000, some (.box [.ref 45000 0 r59.1.Buffer.length, .ref 45001 0 r59.1.Disk.length, .ref 45002 0 r59.1.DiskLSN.length, .ref 45003 0 r59.1.Log.length, .i r59.1.Flushed, .i r59.1.LastID, .ref 45006 0 r59.1.Active.length])), (25000, R78 l46), (25001, R78 l47), (25002, R80 l48), (25005, R3 l51), (25006, R3 l52), (45000, R3 r59.1.Buffer), (45001, R3 r59.1.Disk), (45002, R3 r59.1.DiskLSN), (45003, R84 r59.1.Log), (45006, R3 r59.1.Active)]) (by simp; exact Sub.table (by simp) (by simp)) ?_
         refine Chain.nil ?_
         refine blockQ.normal ?_
         refine blockQ.normal ?_
         refine thenQ_normal ?_
         refine AW.seqR ?_
         refine Chain.runK [] 4 fun K hK => ?_; simp; refine hK _ _ ?_; clear hK K
         refine Chain.sub (S' := mk 266 [1000, 2000] [(6, .b (v45 == 0))] [(1000, some (.box [.ref 25000 0 l46.length, .ref 25001 0 l47.length, .ref 25002 0 l48.length, .i v49, .i v50, .ref 25005 0 l51.length, .ref 25006 0 l52.length])), (2000, some (.box [.ref 45000 0 r59.1.Buffer.length, .ref 45001 0 r59.1.Disk.length, .ref 45002 0 r59.1.DiskLSN.length, .ref 45003 0 r59.1.Log.length, .i r59.1.Flushed, .i r59.1.LastID, .ref 45006 0 r59.1.Active.length])), (25000, R78 l46), (25001, R78 l47), (25002, R80 l48), (25005, R3 l51), (25006, R3 l52), (45000, R3 r59.1.Buffer), (45001, R3 r59.1.Disk), (45002, R3 r59.1.DiskLSN), (45003, R84 r59.1.Log), (45006, R3 r59.1.Active)]) Sub.tt ?_
         refine Chain.nil ?_
         refine AW.ret ?_
         cases h
         exact FinF.ret (by simp) (by simp)
        ·have c58_ : (r57 == 4) = false := Bool.eq_false_iff.2 c58
         refine AW.condF (b := (r57 == 4)) rfl c58_ ?_
         refine AW.sub (Sub.bool 171 (b := (r57 == 4)) rfl c58_) ?_
         refine AW.sub (S' := mk 266 [1000, 2000] [(1, .ptr 2000 0 0), (7, .ptr 7 0 0), (12, .i v45), (13, .i 0), (171, .b false)] [(7, some (.box [.i r1])), (1000, some (.box [.ref 25000 0 l46.length, .ref 25001 0 l47.length, .ref 25002 0 l48.length, .i v49, .i v50, .ref 25005 0 l51.length, .ref 25006 0 l52.length])), (2000, some (.box [.ref 45000 0 a1.Buffer.length, .ref 45001 0 a1.Disk.length, .ref 45002 0 a1.DiskLSN.length, .ref 45003 0 a1.Log.length, .i a1.Flushed, .i a1.LastID, .ref 45006 0 a1.Active.length])), (25000, R78 l46), (25001, R78 l47), (25002, R80 l48), (25005, R3 l51), (25006, R3 l52), (45000, R3 a1.Buffer), (45001, R3 a1.Disk), (45002, R3 a1.DiskLSN), (45003, R84 a1.Log), (45006, R3 a1.Active)]) (by simp; exact Sub.table (by simp) (by simp)) ?_
         refine AW.seqR ?_
         refine Chain.runK [] 3 fun K hK => ?_; simp; refine hK _ _ ?_; clear hK K
         refine Chain.sub (S' := mk 266 [1000, 2000] [(1, .ptr 2000 0 0), (7, .ptr 7 0 0), (12, .i v45), (13, .i 0), (147, .ptr 2000 0 0), (149, .agg [.i 3, .i r1, .i 0, .i 0, .i 0])] [(7, some (.box [.i r1])), (1000, some (.box [.ref 25000 0 l46.length, .ref 25001 0 l47.length, .ref 25002 0 l48.length, .i v49, .i v50, .ref 25005 0 l51.length, .ref 25006 0 l52.length])), (2000, some (.box [.ref 45000 0 a1.Buffer.length, .ref 45001 0 a1.Disk.length, .ref 45002 0 a1.DiskLSN.length, .ref 45003 0 a1.Log.length, .i a1.Flushed, .i a1.LastID, .ref 45006 0 a1.Active.length])), (25000, R78 l46), (25001, R78 l47), (25002, R80 l48), (25005, R3 l51), (25006, R3 l52), (45000, R3 a1.Buffer), (45001, R3 a1.Disk), (45002, R3 a1.DiskLSN), (45003, R84 a1.Log), (45006, R3 a1.Active)]) Sub.tt ?_
         replace h := bsome h; obtain ⟨r60, hr60, h⟩ := h
         refine Chain.callF (p27 N a1 (S84.mk 3 r1 0 0 0) r60 hr60) [(2000, 1000), (45000, 25000), (45001, 25001), (45002, 25002), (45003, 25003), (45006, 25006)] [2000] [(1000, 2000), (25000, 45000), (25001, 45001), (25002, 45002), (25003, 45003), (25006, 45006)] [(2000, (.box [.ref 45000 0 r60.Buffer.length, .ref 45001 0 r60.Disk.length, .ref 45002 0 r60.DiskLSN.length, .ref 45003 0 r60.Log.length, .i r60.Flushed, .i r60.LastID, .ref 45006 0 r60.Active.length])), (45000, (.arr 3 1 (r60.Buffer.map (cI .i64)))), (45001, (.arr 3 1 (r60.Disk.map (cI .i64)))), (45002, (.arr 3 1 (r60.DiskLSN.map (cI .i64)))), (45003, (.arr 84 5 (r60.Log.map cS84))), (45006, (.arr 3 1 (r60.Active.map (cI .i64))))] (.tup []) (by simp) rfl (by simp <;> rfl) (by simp) (by simp) (by simp) (by simp) (by simp) ent27 (by simp) (by simp) (by simp) (by simp) (by simp) (by simp) ?_
         refine Chain.sub (S' := mk 266 [1000, 2000] [(1, .ptr 2000 0 0), (7, .ptr 7 0 0), (12, .i v45), (13, .i 0), (147, .ptr 2000 0 0), (149, .agg [.i 3, .i r1, .i 0, .i 0, .i 0]), (150, .tup [])] [(7, some (.box [.i r1])), (1000, some (.box [.ref 25000 0 l46.length, .ref 25001 0 l47.length, .ref 25002 0 l48.length, .i v49, .i v50, .ref 25005 0 l51.length, .ref 25006 0 l52.length])), (2000, some (.box [.ref 45000 0 r60.Buffer.length, .ref 45001 0 r60.Disk.length, .ref 45002 0 r60.DiskLSN.length, .ref 45003 0 r60.Log.length, .i r60.Flushed, .i r60.LastID, .ref 45006 0 r60.Active.length])), (25000, R78 l46), (25001, R78 l47), (25002, R80 l48), (25005, R3 l51), (25006, R3 l52), (45000, R3 r60.Buffer), (45001, R3 r60.Disk), (45002, R3 r60.DiskLSN), (45003, R84 r60.Log), (45006, R3 r60.Active)]) (by simp; exact Sub.table (by simp) (by simp)) ?_
         refine Chain.nil ?_
         refine AW.seqR ?_
         refine Chain.runK [] 6 fun K hK => ?_; simp; refine hK _ _ ?_; clear hK K
         refine Chain.sub (S' := mk 266 [1000, 2000] [(1, .ptr 2000 0 0), (12, .i v45), (13, .i 0), (151, .ptr 2000 0 0), (155, .ref 45006 0 r60.Active.length), (156, .fn (.func 32) [.ptr 7 0 0])] [(7, some (.box [.i r1])), (1000, some (.box [.ref 25000 0 l46.length, .ref 25001 0 l47.length, .ref 25002 0 l48.length, .i v49, .i v50, .ref 25005 0 l51.length, .ref 25006 0 l52.length])), (2000, some (.box [.ref 45000 0 r60.Buffer.length, .ref 45001 0 r60.Disk.length, .ref 45002 0 r60.DiskLSN.length, .ref 45003 0 r60.Log.length, .i r60.Flushed, .i r60.LastID, .ref 45006 0 r60.Active.length])), (25000, R78 l46), (25001, R78 l47), (25002, R80 l48), (25005, R3 l51), (25006, R3 l52), (45000, R3 r60.Buffer), (45001, R3 r60.Disk), (45002, R3 r60.DiskLSN), (45003, R84 r60.Log), (45006, R3 r60.Active)]) Sub.tt ?_
         refine Chain.sub (Sub.freezeBox 7 [.lit (.int .i64 r1)] rfl) ?_
         refine Chain.sub (S' := mk 266 [1000, 2000] [(1, .ptr 2000 0 0), (12, .i v45), (13, .i 0), (151, .ptr 2000 0 0), (155, .ref 45006 0 r60.Active.length), (156, .fn (.func 32) [.d (.pim [.lit (.int .i64 r1)])])] [(1000, some (.box [.ref 25000 0 l46.length, .ref 25001 0 l47.length, .ref 25002 0 l48.length, .i v49, .i v50, .ref 25005 0 l51.length, .ref 25006 0 l52.length])), (2000, some (.box [.ref 45000 0 r60.Buffer.length, .ref 45001 0 r60.Disk.length, .ref 45002 0 r60.DiskLSN.length, .ref 45003 0 r60.Log.length, .i r60.Flushed, .i r60.LastID, .ref 45006 0 r60.Active.length])), (25000, R78 l46), (25001, R78 l47), (25002, R80 l48), (25005, R3 l51), (25006, R3 l52), (45000, R3 r60.Buffer), (45001, R3 r60.Disk), (45002, R3 r60.DiskLSN), (45003, R84 r60.Log), (45006, R3 r60.Active)]) (by simp; exact Sub.table (by simp) (by simp)) ?_
         replace h := bsome h; obtain ⟨r61, hr61, h⟩ := h
         refine Chain.callF (p31 N r60.Active 32 [.pim [.lit (.int .i64 r1)]] (fun b0 => d32 N b0 r1) ent32 (fun b0 r h => p32 N b0 r1 r h) r61 hr61) [(45006, 1000)] [45006] [(1000, 45006)] [(45006, .arr 3 1 (r61.map (cI .i64)))] (.ref 45006 0 r61.length) (by simp) rfl (by simp <;> rfl) (by simp) (by simp) (by simp) (by simp) (by simp) ent31 (by simp) (by simp) (by simp) (by simp) (by simp) (by simp) ?_
         refine Chain.sub (S' := mk 266 [1000, 2000] [(1, .ptr 2000 0 0), (12, .i v45), (13, .i 0), (151, .ptr 2000 0 0), (156, .fn (.func 32) [.d (.pim [.lit (.int .i64 r1)])]), (157, .ref 45006 0 r61.length)] [(1000, some (.box [.ref 25000 0 l46.length, .ref 25001 0 l47.length, .ref 25002 0 l48.length, .i v49, .i v50, .ref 25005 0 l51.length, .ref 25006 0 l52.length])), (2000, some (.box [.ref 45000 0 r60.Buffer.length, .ref 45001 0 r60.Disk.length, .ref 45002 0 r60.DiskLSN.length, .ref 45003 0 r60.Log.length, .i r60.Flushed, .i r60.LastID, .ref 45006 0 r60.Active.length])), (25000, R78 l46), (25001, R78 l47), (25002, R80 l48), (25005, R3 l51), (25006, R3 l52), (45000, R3 r60.Buffer), (45001, R3 r60.Disk), (45002, R3 r60.DiskLSN), (45003, R84 r60.Log), (45006, R3 r61)]) (by simp; exact Sub.table (by simp) (by simp)) ?_
         refine Chain.runK [] 3 fun K hK => ?_; simp; refine hK _ _ ?_; clear hK K
         refine Chain.sub (S' := mk 266 [1000, 2000] [(1, .ptr 2000 0 0), (12, .i v45), (13, .i 0)] [(1000, some (.box [.ref 25000 0 l46.length, .ref 25001 0 l47.length, .ref 25002 0 l48.length, .i v49, .i v50, .ref 25005 0 l51.length, .ref 25006 0 l52.length])), (2000, some (.box [.ref 45000 0 r60.Buffer.length, .ref 45001 0 r60.Disk.length, .ref 45002 0 r60.DiskLSN.length, .ref 45003 0 r60.Log.length, .i r60.Flushed, .i r60.LastID, .ref 45006 0 r61.length])), (25000, R78 l46), (25001, R78 l47), (25002, R80 l48), (25005, R3 l51), (25006, R3 l52), (45000, R3 r60.Buffer), (45001, R3 r60.Disk), (45002, R3 r60.DiskLSN), (45003, R84 r60.Log), (45006, R3 r61)]) Sub.tt ?_
         refine Chain.nil ?_
         refine AW.region ?_
         refine Chain.runK [] 9 fun K hK => ?_; simp; refine hK _ _ ?_; clear hK K
         refine Chain.sub (S' := mk 266 [1000, 2000] [(12, .i v45), (13, .i 0)] [(1000, some (.box [.ref 25000 0 l46.length, .ref 25001 0 l47.length, .ref 25002 0 l48.length, .i v49, .i v50, .ref 25005 0 l51.length, .ref 25006 0 l52.length])), (2000, some (.box [.ref 45000 0 r60.Buffer.length, .ref 45001 0 r60.Disk.length, .ref 45002 0 r60.DiskLSN.length, .ref 45003 0 r60.Log.length, .i (r60.Log.length : Int), .i r60.LastID, .ref 45006 0 r61.length])), (25000, R78 l46), (25001, R78 l47), (25002, R80 l48), (25005, R3 l51), (25006, R3 l52), (45000, R3 r60.Buffer), (45001, R3 r60.Disk), (45002, R3 r60.DiskLSN), (45003, R84 r60.Log), (45006, R3 r61)]) Sub.tt ?_
         refine Chain.nil ?_
         refine blockQ.normal ?_
         refine blockQ.normal ?_
         refine thenQ_normal ?_
         refine AW.seqR ?_
         refine Chain.runK [] 4 fun K hK => ?_; simp; refine hK _ _ ?_; clear hK K
         refine Chain.sub (S' := mk 266 [1000, 2000] [(6, .b (v45 == 0))] [(1000, some (.box [.ref 25000 0 l46.length, .ref 25001 0 l47.length, .ref 25002 0 l48.length, .i v49, .i v50, .ref 25005 0 l51.length, .ref 25006 0 l52.length])), (2000, some (.box [.ref 45000 0 r60.Buffer.length, .ref 45001 0 r60.Disk.length, .ref 45002 0 r60.DiskLSN.length, .ref 45003 0 r60.Log.length, .i (r60.Log.length : Int), .i r60.LastID, .ref 45006 0 r61.length])), (25000, R78 l46), (25001, R78 l47), (25002, R80 l48), (25005, R3 l51), (25006, R3 l52), (45000, R3 r60.Buffer), (45001, R3 r60.Disk), (45002, R3 r60.DiskLSN), (45003, R84 r60.Log), (45006, R3 r61)]) Sub.tt ?_
         refine Chain.nil ?_
         refine AW.ret ?_
         cases h
         exact FinF.ret (by simp) (by simp)
     ·have c40_ : v38 = false := Bool.eq_false_iff.2 c40
      refine AW.condF (b := v38) rfl c40_ ?_
      refine AW.sub (Sub.bool 135 (b := v38) rfl c40_) ?_
      refine AW.sub (S' := mk 266 [1000, 2000] [(0, .ptr 1000 0 0), (1, .ptr 2000 0 0), (2, .d (.sl (a2.map (cI .i64)))), (7, .ptr 7 0 0), (8, .i r2), (10, .b v7), (11, .b v8), (12, .i 0), (13, .i 0), (44, .i r12), (135, .b false)] [(7, some (.box [.i r1])), (1000, some (.box [.ref 25000 0 a0.buffer.length, .ref 25001 0 a0.disk.length, .ref 25002 0 a0.log.length, .i a0.flushed, .i a0.lastID, .ref 25005 0 a0.active.length, .ref 25006 0 a0.writer.length])), (2000, some (.box [.ref 45000 0 a1.Buffer.length, .ref 45001 0 a1.Disk.length, .ref 45002 0 a1.DiskLSN.length, .ref 45003 0 a1.Log.length, .i a1.Flushed, .i a1.LastID, .ref 45006 0 a1.Active.length])), (25000, R78 a0.buffer), (25001, R78 a0.disk), (25002, R80 a0.log), (25005, R3 a0.active), (25006, R3 a0.writer), (45000, R3 a1.Buffer), (45001, R3 a1.Disk), (45002, R3 a1.DiskLSN), (45003, R84 a1.Log), (45006, R3 a1.Active)]) (by simp; exact Sub.table (by simp) (by simp)) ?_
      refine AW.seqR ?_
      refine Chain.runK [] 2 fun K hK => ?_; simp; refine hK _ _ ?_; clear hK K
      refine Chain.sub (S' := mk 266 [1000, 2000] [(0, .ptr 1000 0 0), (1, .ptr 2000 0 0), (8, .i r2), (10, .b v7), (12, .i 0), (13, .i 0), (44, .i r12), (178, .b (r12 == 5))] [(1000, some (.box [.ref 25000 0 a0.buffer.length, .ref 25001 0 a0.disk.length, .ref 25002 0 a0.log.length, .i a0.flushed, .i a0.lastID, .ref 25005 0 a0.active.length, .ref 25006 0 a0.writer.length])), (2000, some (.box [.ref 45000 0 a1.Buffer.length, .ref 45001 0 a1.Disk.length, .ref 45002 0 a1.DiskLSN.length, .ref 45003 0 a1.Log.length, .i a1.Flushed, .i a1.LastID, .ref 45006 0 a1.Active.length])), (25000, R78 a0.buffer), (25001, R78 a0.disk), (25002, R80 a0.log), (25005, R3 a0.active), (25006, R3 a0.writer), (45000, R3 a1.Buffer), (45001, R3 a1.Disk), (45002, R3 a1.DiskLSN), (45003, R84 a1.Log), (45006, R3 a1.Active)]) Sub.tt ?_
      refine Chain.nil ?_
      replace h := isome h; rcases h with ⟨c62, h⟩ | ⟨c62, h⟩
      ·have c62_ : (r12 == 5) = true := c62
       refine AW.condT (b := (r12 == 5)) rfl c62_ ?_
       refine AW.sub (Sub.bool 178 (b := (r12 == 5)) rfl c62_) ?_
       refine AW.sub (S' := mk 266 [1000, 2000] [(0, .ptr 1000 0 0), (1, .ptr 2000 0 0), (8, .i r2), (10, .b v7), (12, .i 0), (13, .i 0), (44, .i r12), (178, .b true)] [(1000, some (.box [.ref 25000 0 a0.buffer.length, .ref 25001 0 a0.disk.length, .ref 25002 0 a0.log.length, .i a0.flushed, .i a0.lastID, .ref 25005 0 a0.active.length, .ref 25006 0 a0.writer.length])), (2000, some (.box [.ref 45000 0 a1.Buffer.length, .ref 45001 0 a1.Disk.length, .ref 45002 0 a1.DiskLSN.length, .ref 45003 0 a1.Log.length, .i a1.Flushed, .i a1.LastID, .ref 45006 0 a1.Active.length])), (25000, R78 a0.buffer), (25001, R78 a0.disk), (25002, R80 a0.log), (25005, R3 a0.active), (25006, R3 a0.writer), (45000, R3 a1.Buffer), (45001, R3 a1.Disk), (45002, R3 a1.DiskLSN), (45003, R84 a1.Log), (45006, R3 a1.Active)]) (by simp; exact Sub.table (by simp) (by simp)) ?_
       refine AW.seqR ?_
       refine Chain.runK [] 2 fun K hK => ?_; simp; refine hK _ _ ?_; clear hK K
       refine Chain.sub (S' := mk 266 [1000, 2000] [(1, .ptr 2000 0 0), (8, .i r2), (10, .b v7), (180, .ptr 1000 0 0), (181, .i r2)] [(1000, some (.box [.ref 25000 0 a0.buffer.length, .ref 25001 0 a0.disk.length, .ref 25002 0 a0.log.length, .i a0.flushed, .i a0.lastID, .ref 25005 0 a0.active.length, .ref 25006 0 a0.writer.length])), (2000, some (.box [.ref 45000 0 a1.Buffer.length, .ref 45001 0 a1.Disk.length, .ref 45002 0 a1.DiskLSN.length, .ref 45003 0 a1.Log.length, .i a1.Flushed, .i a1.LastID, .ref 45006 0 a1.Active.length])), (25000, R78 a0.buffer), (25001, R78 a0.disk), (25002, R80 a0.log), (25005, R3 a0.active), (25006, R3 a0.writer), (45000, R3 a1.Buffer), (45001, R3 a1.Disk), (45002, R3 a1.DiskLSN), (45003, R84 a1.Log), (45006, R3 a1.Active)]) Sub.tt ?_
       replace h := bsome h; obtain ⟨r63, hr63, h⟩ := h
       refine Chain.callF (p33 N a0 r2 r63 hr63) [(1000, 1000), (25000, 25000), (25001, 25001), (25002, 25002), (25005, 25005), (25006, 25006)] [1000] [(1000, 1000), (25000, 25000), (25001, 25001), (25002, 25002), (25005, 25005), (25006, 25006)] [(1000, (.box [.ref 25000 0 r63.1.buffer.length, .ref 25001 0 r63.1.disk.length, .ref 25002 0 r63.1.log.length, .d (.lit (.int .i64 r63.1.flushed)), .d (.lit (.int .i64 r63.1.lastID)), .ref 25005 0 r63.1.active.length, .ref 25006 0 r63.1.writer.length])), (25000, (.arr 78 2 (r63.1.buffer.map cS78))), (25001, (.arr 78 2 (r63.1.disk.map cS78))), (25002, (.arr 80 5 (r63.1.log.map cS80))), (25005, (.arr 3 1 (r63.1.active.map (cI .i64)))), (25006, (.arr 3 1 (r63.1.writer.map (cI .i64))))] (.d (.lit (.int .i64 r63.2))) (by simp) rfl (by simp <;> rfl) (by simp) (by simp) (by simp) (by simp) (by simp) ent33 (by simp) (by simp) (by simp) (by simp) (by simp) (by simp) ?_
       refine Chain.sub (S' := mk 266 [1000, 2000] [(1, .ptr 2000 0 0), (8, .i r2), (10, .b v7), (180, .ptr 1000 0 0), (181, .i r2), (182, .i r63.2)] [(1000, some (.box [.ref 25000 0 r63.1.buffer.length, .ref 25001 0 r63.1.disk.length, .ref 25002 0 r63.1.log.length, .i r63.1.flushed, .i r63.1.lastID, .ref 25005 0 r63.1.active.length, .ref 25006 0 r63.1.writer.length])), (2000, some (.box [.ref 45000 0 a1.Buffer.length, .ref 45001 0 a1.Disk.length, .ref 45002 0 a1.DiskLSN.length, .ref 45003 0 a1.Log.length, .i a1.Flushed, .i a1.LastID, .ref 45006 0 a1.Active.length])), (25000, R78 r63.1.buffer), (25001, R78 r63.1.disk), (25002, R80 r63.1.log), (25005, R3 r63.1.active), (25006, R3 r63.1.writer), (45000, R3 a1.Buffer), (45001, R3 a1.Disk), (45002, R3 a1.DiskLSN), (45003, R84 a1.Log), (45006, R3 a1.Active)]) (by simp; exact Sub.table (by simp) (by simp)) ?_
       refine Chain.runK [] 1 fun K hK => ?_; simp; refine hK _ _ ?_; clear hK K
       refine Chain.sub (S' := mk 266 [1000, 2000] [(1, .ptr 2000 0 0), (8, .i r2), (10, .b v7), (12, .i r63.2)] [(1000, some (.box [.ref 25000 0 r63.1.buffer.length, .ref 25001 0 r63.1.disk.length, .ref 25002 0 r63.1.log.length, .i r63.1.flushed, .i r63.1.lastID, .ref 25005 0 r63.1.active.length, .ref 25006 0 r63.1.writer.length])), (2000, some (.box [.ref 45000 0 a1.Buffer.length, .ref 45001 0 a1.Disk.length, .ref 45002 0 a1.DiskLSN.length, .ref 45003 0 a1.Log.length, .i a1.Flushed, .i a1.LastID, .ref 45006 0 a1.Active.length])), (25000, R78 r63.1.buffer), (25001, R78 r63.1.disk), (25002, R80 r63.1.log), (25005, R3 r63.1.active), (25006, R3 r63.1.writer), (45000, R3 a1.Buffer), (45001, R3 a1.Disk), (45002, R3 a1.DiskLSN), (45003, R84 a1.Log), (45006, R3 a1.Active)]) Sub.tt ?_
       refine Chain.nil ?_
       refine AW.seqR ?_
       refine Chain.runK [] 1 fun K hK => ?_; simp; refine hK _ _ ?_; clear hK K
       refine Chain.sub (S' := mk 266 [1000, 2000] [(1, .ptr 2000 0 0), (8, .i r2), (10, .b v7), (12, .i r63.2), (13, .i 1)] [(1000, some (.box [.ref 25000 0 r63.1.buffer.length, .ref 25001 0 r63.1.disk.length, .ref 25002 0 r63.1.log.length, .i r63.1.flushed, .i r63.1.lastID, .ref 25005 0 r63.1.active.length, .ref 25006 0 r63.1.writer.length])), (2000, some (.box [.ref 45000 0 a1.Buffer.length, .ref 45001 0 a1.Disk.length, .ref 45002 0 a1.DiskLSN.length, .ref 45003 0 a1.Log.length, .i a1.Flushed, .i a1.LastID, .ref 45006 0 a1.Active.length])), (25000, R78 r63.1.buffer), (25001, R78 r63.1.disk), (25002, R80 r63.1.log), (25005, R3 r63.1.active), (25006, R3 r63.1.writer), (45000, R3 a1.Buffer), (45001, R3 a1.Disk), (45002, R3 a1.DiskLSN), (45003, R84 a1.Log), (45006, R3 a1.Active)]) Sub.tt ?_
       refine Chain.nil ?_
       refine AW.seqR ?_
       refine Chain.runK [] 1 fun K hK => ?_; simp; refine hK _ _ ?_; clear hK K
       refine Chain.sub (S' := mk 266 [1000, 2000] [(1, .ptr 2000 0 0), (8, .i r2), (12, .i r63.2), (13, .i 1), (183, .b v7)] [(1000, some (.box [.ref 25000 0 r63.1.buffer.length, .ref 25001 0 r63.1.disk.length, .ref 25002 0 r63.1.log.length, .i r63.1.flushed, .i r63.1.lastID, .ref 25005 0 r63.1.active.length, .ref 25006 0 r63.1.writer.length])), (2000, some (.box [.ref 45000 0 a1.Buffer.length, .ref 45001 0 a1.Disk.length, .ref 45002 0 a1.DiskLSN.length, .ref 45003 0 a1.Log.length, .i a1.Flushed, .i a1.LastID, .ref 45006 0 a1.Active.length])), (25000, R78 r63.1.buffer), (25001, R78 r63.1.disk), (25002, R80 r63.1.log), (25005, R3 r63.1.active), (25006, R3 r63.1.writer), (45000, R3 a1.Buffer), (45001, R3 a1.Disk), (45002, R3 a1.DiskLSN), (45003, R84 a1.Log), (45006, R3 a1.Active)]) Sub.tt ?_
       refine Chain.nil ?_
       replace h := isome h; rcases h with ⟨c64, h⟩ | ⟨c64, h⟩
       ·have c64_ : v7 = true := c64
        refine AW.condT (b := v7) rfl c64_ ?_
        refine AW.sub (Sub.bool 183 (b := v7) rfl c64_) ?_
        refine AW.sub (S' := mk 266 [1000, 2000] [(1, .ptr 2000 0 0), (8, .i r2), (12, .i r63.2), (13, .i 1), (183, .b true)] [(1000, some (.box [.ref 25000 0 r63.1.buffer.length, .ref 25001 0 r63.1.disk.length, .ref 25002 0 r63.1.log.length, .i r63.1.flushed, .i r63.1.lastID, .ref 25005 0 r63.1.active.length, .ref 25006 0 r63.1.writer.length])), (2000, some (.box [.ref 45000 0 a1.Buffer.length, .ref 45001 0 a1.Disk.length, .ref 45002 0 a1.DiskLSN.length, .ref 45003 0 a1.Log.length, .i a1.Flushed, .i a1.LastID, .ref 45006 0 a1.Active.length])), (25000, R78 r63.1.buffer), (25001, R78 r63.1.disk), (25002, R80 r63.1.log), (25005, R3 r63.1.active), (25006, R3 r63.1.writer), (45000, R3 a1.Buffer), (45001, R3 a1.Disk), (45002, R3 a1.DiskLSN), (45003, R84 a1.Log), (45006, R3 a1.Active)]) (by simp; exact Sub.table (by simp) (by simp)) ?_
        refine AW.seqR ?_
        refine Chain.runK [] 1 fun K hK => ?_; simp; refine hK _ _ ?_; clear hK K
        refine Chain.sub (S' := mk 266 [1000, 2000] [(1, .ptr 2000 0 0), (8, .i r2), (12, .i r63.2), (13, .i 0)] [(1000, some (.box [.ref 25000 0 r63.1.buffer.length, .ref 25001 0 r63.1.disk.length, .ref 25002 0 r63.1.log.length, .i r63.1.flushed, .i r63.1.lastID, .ref 25005 0 r63.1.active.length, .ref 25006 0 r63.1.writer.length])), (2000, some (.box [.ref 45000 0 a1.Buffer.length, .ref 45001 0 a1.Disk.length, .ref 45002 0 a1.DiskLSN.length, .ref 45003 0 a1.Log.length, .i a1.Flushed, .i a1.LastID, .ref 45006 0 a1.Active.length])), (25000, R78 r63.1.buffer), (25001, R78 r63.1.disk), (25002, R80 r63.1.log), (25005, R3 r63.1.active), (25006, R3 r63.1.writer), (45000, R3 a1.Buffer), (45001, R3 a1.Disk), (45002, R3 a1.DiskLSN), (45003, R84 a1.Log), (45006, R3 a1.Active)]) Sub.tt ?_
        refine Chain.nil ?_
        replace h := bsome h; obtain ⟨x65, hx65, h⟩ := h
        obtain ⟨k66, hx65k, hx65, hx65a, hx65b⟩ := idx_some hx65
        replace h := bsome h; obtain ⟨r67, hr67, h⟩ := h
        replace h := bsome h; obtain ⟨x68, hx68, h⟩ := h
        obtain ⟨hx68, hx68a, hx68b⟩ := idx_some2 hx68 hx65k
        replace h := lsome h; obtain ⟨l69, gl69, h⟩ := h
        obtain ⟨hl69, hl69n⟩ := setI_some (cI .i64) gl69 hx65k
        replace hl69 : (a1.Disk.map (cI .i64)).set k66 [.lit (.int .i64 x65)] = l69.map (cI .i64) := hl69
        clear gl69
        replace h := bsome h; obtain ⟨x70, hx70, h⟩ := h
        obtain ⟨hx70, hx70a, hx70b⟩ := idx_some2 hx70 hx65k
        replace h := lsome h; obtain ⟨l71, gl71, h⟩ := h
        obtain ⟨hl71, hl71n⟩ := setI_some (cI .i64) gl71 hx65k
        replace hl71 : (a1.DiskLSN.map (cI .i64)).set k66 [.lit (.int .i64 r67)] = l71.map (cI .i64) := hl71
        clear gl71
        refine AW.seqAnyS [[], [0], [0, 1], [0, 1, 2], [], [], [5], [5, 6], [5, 6, 7], [], [], [10], [10, 11], [10, 11, 12], [], [10, 11, 12, 13, 14], [10, 11, 12, 13, 14, 15], [], [], [17, 18], [0, 1, 2, 3, 4, 5, 6, 7, 8, 10, 11, 12, 13, 14, 15, 16, 17, 18, 19], [0, 1, 2, 3, 4, 5, 6, 7, 8, 10, 11, 12, 13, 14, 15, 16, 17, 18, 19, 20], [0, 1, 2, 3, 4, 5, 6, 7, 8, 9, 10, 11, 12, 13, 14, 15, 16, 17, 18, 19, 20, 21], [0, 1, 2, 3, 4, 5, 6, 7, 8, 9, 10, 11, 12, 13, 14, 15, 16, 17, 18, 19, 20, 21, 22]] (fun (b : Nat → Bool) => mk 266 [1000, 2000] [(1, .ptr 2000 0 0), (8, .i r2), (12, .i r63.2), (13, .i 0), (184, (if b 0 then .ptr 2000 0 0 else .junk)), (185, (if b 1 then .ptr 2000 0 0 else .junk)), (186, (if b 2 then .ptr 2000 0 1 else .junk)), (187, (if b 21 then .ref 45001 0 l69.length else (if b 3 then .ref 45001 0 a1.Disk.length else .junk))), (188, (if b 4 then .i r2 else .junk)), (189, (if b 5 then .ptr 2000 0 0 else .junk)), (190, (if b 6 then .ptr 2000 0 0 else .junk)), (191, (if b 7 then .ptr 2000 0 2 else .junk)), (192, (if b 23 then .ref 45002 0 l71.length else (if b 8 then .ref 45002 0 a1.DiskLSN.length else .junk))), (193, (if b 9 then .i r2 else .junk)), (194, (if b 10 then .ptr 2000 0 0 else .junk)), (195, (if b 11 then .ptr 2000 0 0 else .junk)), (196, (if b 12 then .ptr 2000 0 0 else .junk)), (197, (if b 13 then .ref 45000 0 a1.Buffer.length else .junk)), (198, (if b 14 then .i r2 else .junk)), (199, (if b 15 then .ptr 45000 k66 0 else .junk)), (200, (if b 16 then .i x65 else .junk)), (201, (if b 17 then .ptr 2000 0 0 else .junk)), (202, (if b 18 then .i r2 else .junk)), (203, (if b 19 then .i r67 else .junk)), (204, (if b 20 then .ptr 45001 k66 0 else .junk)), (205, (if b 22 then .ptr 45002 k66 0 else .junk))] [(1000, some (.box [.ref 25000 0 r63.1.buffer.length, .ref 25001 0 r63.1.disk.length, .ref 25002 0 r63.1.log.length, .i r63.1.flushed, .i r63.1.lastID, .ref 25005 0 r63.1.active.length, .ref 25006 0 r63.1.writer.length])), (2000, (if b 23 then some (.box [.ref 45000 0 a1.Buffer.length, .ref 45001 0 l69.length, .ref 45002 0 l71.length, .ref 45003 0 a1.Log.length, .i a1.Flushed, .i a1.LastID, .ref 45006 0 a1.Active.length]) else (if b 21 then some (.box [.ref 45000 0 a1.Buffer.length, .ref 45001 0 l69.length, .ref 45002 0 a1.DiskLSN.length, .ref 45003 0 a1.Log.length, .i a1.Flushed, .i a1.LastID, .ref 45006 0 a1.Active.length]) else some (.box [.ref 45000 0 a1.Buffer.length, .ref 45001 0 a1.Disk.length, .ref 45002 0 a1.DiskLSN.length, .ref 45003 0 a1.Log.length, .i a1.Flushed, .i a1.LastID, .ref 45006 0 a1.Active.length])))), (25000, R78 r63.1.buffer), (25001, R78 r63.1.disk), (25002, R80 r63.1.log), (25005, R3 r63.1.active), (25006, R3 r63.1.writer), (45000, R3 a1.Buffer), (45001, (if b 21 then R3 l69 else R3 a1.Disk)), (45002, (if b 23 then R3 l71 else R3 a1.DiskLSN)), (45003, R84 a1.Log), (45006, R3 a1.Active)]) (mk 266 [1000, 2000] [(1, .ptr 2000 0 0), (8, .i r2), (12, .i r63.2), (13, .i 0)] [(1000, some (.box [.ref 25000 0 r63.1.buffer.length, .ref 25001 0 r63.1.disk.length, .ref 25002 0 r63.1.log.length, .i r63.1.flushed, .i r63.1.lastID, .ref 25005 0 r63.1.active.length, .ref 25006 0 r63.1.writer.length])), (2000, some (.box [.ref 45000 0 a1.Buffer.length, .ref 45001 0 l69.length, .ref 45002 0 l71.length, .ref 45003 0 a1.Log.length, .i a1.Flushed, .i a1.LastID, .ref 45006 0 a1.Active.length])), (25000, R78 r63.1.buffer), (25001, R78 r63.1.disk), (25002, R80 r63.1.log), (25005, R3 r63.1.active), (25006, R3 r63.1.writer), (45000, R3 a1.Buffer), (45001, R3 l69), (45002, R3 l71), (45003, R84 a1.Log), (45006, R3 a1.Active)]) (by kernel_rfl) (by kernel_rfl) Sub.tt (Steps.cons ?_ (Steps.cons ?_ (Steps.cons ?_ (Steps.cons ?_ (Steps.cons ?_ (Steps.cons ?_ (Steps.cons ?_ (Steps.cons ?_ (Steps.cons ?_ (Steps.cons ?_ (Steps.cons ?_ (Steps.cons ?_ (Steps.cons ?_ (Steps.cons ?_ (Steps.cons ?_ (Steps.cons ?_ (Steps.cons ?_ (Steps.cons ?_ (Steps.cons ?_ (Steps.cons ?_ (Steps.cons ?_ (Steps.cons ?_ (Steps.cons ?_ (Steps.cons ?_ (Steps.nil))))))))))))))))))))))))) ?_ ?_
        ·intro b h0 ha hd
         have f1 : b 1 = false := hd 1 (by decide)
         have f2 : b 2 = false := hd 2 (by decide)
         have f3 : b 3 = false := hd 3 (by decide)
         have f20 : b 20 = false := hd 20 (by decide)
         have f21 : b 21 = false := hd 21 (by decide)
         have f22 : b 22 = false := hd 22 (by decide)
         have f23 : b 23 = false := hd 23 (by decide)
         refine Chain.runK [] 1 fun K hK => ?_; simp [h0, f1, f2, f3, f20, f21, f22, f23]; refine hK _ _ ?_; clear hK K
         exact Chain.nil (Sub.table (by simp [f1, f2, f3, f20, f21, f22, f23]) (by simp [f21, f23]))
        ·intro b h0 ha hd
         have t0 : b 0 = true := ha 0 (by decide)
         have f2 : b 2 = false := hd 2 (by decide)
         have f3 : b 3 = false := hd 3 (by decide)
         have f20 : b 20 = false := hd 20 (by decide)
         have f21 : b 21 = false := hd 21 (by decide)
         have f22 : b 22 = false := hd 22 (by decide)
         have f23 : b 23 = false := hd 23 (by decide)
         refine Chain.runK [] 1 fun K hK => ?_; simp [h0, t0, f2, f3, f20, f21, f22, f23]; refine hK _ _ ?_; clear hK K
         exact Chain.nil (Sub.table (by simp [t0, f2, f3, f20, f21, f22, f23]) (by simp [f21, f23]))
        ·intro b h0 ha hd
         have t0 : b 0 = true := ha 0 (by decide)
         have t1 : b 1 = true := ha 1 (by decide)
         have f3 : b 3 = false := hd 3 (by decide)
         have f20 : b 20 = false := hd 20 (by decide)
         have f21 : b 21 = false := hd 21 (by decide)
         have f22 : b 22 = false := hd 22 (by decide)
         have f23 : b 23 = false := hd 23 (by decide)
         refine Chain.runK [] 1 fun K hK => ?_; simp [h0, t0, t1, f3, f20, f21, f22, f23]; refine hK _ _ ?_; clear hK K
         exact Chain.nil (Sub.table (by simp [t0, t1, f3, f20, f21, f22, f23]) (by simp [f21, f23]))
        ·intro b h0 ha hd
         have t0 : b 0 = true := ha 0 (by decide)
         have t1 : b 1 = true := ha 1 (by decide)
         have t2 : b 2 = true := ha 2 (by decide)
         have f20 : b 20 = false := hd 20 (by decide)
         have f21 : b 21 = false := hd 21 (by decide)
         have f22 : b 22 = false := hd 22 (by decide)
         have f23 : b 23 = false := hd 23 (by decide)
         refine Chain.runK [] 1 fun K hK => ?_; simp [h0, t0, t1, t2, f20, f21, f22, f23]; refine hK _ _ ?_; clear hK K
         exact Chain.nil (Sub.table (by simp [t0, t1, t2, f20, f21, f22, f23]) (by simp [f21, f23]))
        ·intro b h0 ha hd
         have f20 : b 20 = false := hd 20 (by decide)
         have f21 : b 21 = false := hd 21 (by decide)
         have f22 : b 22 = false := hd 22 (by decide)
         have f23 : b 23 = false := hd 23 (by decide)
         refine Chain.runK [] 1 fun K hK => ?_; simp [h0, f20, f21, f22, f23]; refine hK _ _ ?_; clear hK K
         exact Chain.nil (Sub.table (by simp [f20, f21, f22, f23]) (by simp [f21, f23]))
        ·intro b h0 ha hd
         have f6 : b 6 = false := hd 6 (by decide)
         have f7 : b 7 = false := hd 7 (by decide)
         have f8 : b 8 = false := hd 8 (by decide)
         have f20 : b 20 = false := hd 20 (by decide)
         have f21 : b 21 = false := hd 21 (by decide)
         have f22 : b 22 = false := hd 22 (by decide)
         have f23 : b 23 = false := hd 23 (by decide)
         refine Chain.runK [] 1 fun K hK => ?_; simp [h0, f6, f7, f8, f20, f21, f22, f23]; refine hK _ _ ?_; clear hK K
         exact Chain.nil (Sub.table (by simp [f6, f7, f8, f20, f21, f22, f23]) (by simp [f21, f23]))
        ·intro b h0 ha hd
         have t5 : b 5 = true := ha 5 (by decide)
         have f7 : b 7 = false := hd 7 (by decide)
         have f8 : b 8 = false := hd 8 (by decide)
         have f20 : b 20 = false := hd 20 (by decide)
         have f21 : b 21 = false := hd 21 (by decide)
         have f22 : b 22 = false := hd 22 (by decide)
         have f23 : b 23 = false := hd 23 (by decide)
         refine Chain.runK [] 1 fun K hK => ?_; simp [h0, t5, f7, f8, f20, f21, f22, f23]; refine hK _ _ ?_; clear hK K
         exact Chain.nil (Sub.table (by simp [t5, f7, f8, f20, f21, f22, f23]) (by simp [f21, f23]))
        ·intro b h0 ha hd
         have t5 : b 5 = true := ha 5 (by decide)
         have t6 : b 6 = true := ha 6 (by decide)
         have f8 : b 8 = false := hd 8 (by decide)
         have f20 : b 20 = false := hd 20 (by decide)
         have f21 : b 21 = false := hd 21 (by decide)
         have f22 : b 22 = false := hd 22 (by decide)
         have f23 : b 23 = false := hd 23 (by decide)
         refine Chain.runK [] 1 fun K hK => ?_; simp [h0, t5, t6, f8, f20, f21, f22, f23]; refine hK _ _ ?_; clear hK K
         exact Chain.nil (Sub.table (by simp [t5, t6, f8, f20, f21, f22, f23]) (by simp [f21, f23]))
        ·intro b h0 ha hd
         have t5 : b 5 = true := ha 5 (by decide)
         have t6 : b 6 = true := ha 6 (by decide)
         have t7 : b 7 = true := ha 7 (by decide)
         have f20 : b 20 = false := hd 20 (by decide)
         have f21 : b 21 = false := hd 21 (by decide)
         have f22 : b 22 = false := hd 22 (by decide)
         have f23 : b 23 = false := hd 23 (by decide)
         refine Chain.runK [] 1 fun K hK => ?_; simp [h0, t5, t6, t7, f20, f21, f22, f23]; refine hK _ _ ?_; clear hK K
         exact Chain.nil (Sub.table (by simp [t5, t6, t7, f20, f21, f22, f23]) (by simp [f21, f23]))
        ·intro b h0 ha hd
         have f22 : b 22 = false := hd 22 (by decide)
         have f23 : b 23 = false := hd 23 (by decide)
         refine Chain.runK [] 1 fun K hK => ?_; simp [h0, f22, f23]; refine hK _ _ ?_; clear hK K
         exact Chain.nil (Sub.table (by simp [f22, f23]) (by simp [f23]))
        ·intro b h0 ha hd
         have f11 : b 11 = false := hd 11 (by decide)
         have f12 : b 12 = false := hd 12 (by decide)
         have f13 : b 13 = false := hd 13 (by decide)
         have f15 : b 15 = false := hd 15 (by decide)
         have f16 : b 16 = false := hd 16 (by decide)
         have f20 : b 20 = false := hd 20 (by decide)
         have f21 : b 21 = false := hd 21 (by decide)
         have f22 : b 22 = false := hd 22 (by decide)
         have f23 : b 23 = false := hd 23 (by decide)
         refine Chain.runK [] 1 fun K hK => ?_; simp [h0, f11, f12, f13, f15, f16, f20, f21, f22, f23]; refine hK _ _ ?_; clear hK K
         exact Chain.nil (Sub.table (by simp [f11, f12, f13, f15, f16, f20, f21, f22, f23]) (by simp [f21, f23]))
        ·intro b h0 ha hd
         have t10 : b 10 = true := ha 10 (by decide)
         have f12 : b 12 = false := hd 12 (by decide)
         have f13 : b 13 = false := hd 13 (by decide)
         have f15 : b 15 = false := hd 15 (by decide)
         have f16 : b 16 = false := hd 16 (by decide)
         have f20 : b 20 = false := hd 20 (by decide)
         have f21 : b 21 = false := hd 21 (by decide)
         have f22 : b 22 = false := hd 22 (by decide)
         have f23 : b 23 = false := hd 23 (by decide)
         refine Chain.runK [] 1 fun K hK => ?_; simp [h0, t10, f12, f13, f15, f16, f20, f21, f22, f23]; refine hK _ _ ?_; clear hK K
         exact Chain.nil (Sub.table (by simp [t10, f12, f13, f15, f16, f20, f21, f22, f23]) (by simp [f21, f23]))
        ·intro b h0 ha hd
         have t10 : b 10 = true := ha 10 (by decide)
         have t11 : b 11 = true := ha 11 (by decide)
         have f13 : b 13 = false := hd 13 (by decide)
         have f15 : b 15 = false := hd 15 (by decide)
         have f16 : b 16 = false := hd 16 (by decide)
         have f20 : b 20 = false := hd 20 (by decide)
         have f21 : b 21 = false := hd 21 (by decide)
         have f22 : b 22 = false := hd 22 (by decide)
         have f23 : b 23 = false := hd 23 (by decide)
         refine Chain.runK [] 1 fun K hK => ?_; simp [h0, t10, t11, f13, f15, f16, f20, f21, f22, f23]; refine hK _ _ ?_; clear hK K
         exact Chain.nil (Sub.table (by simp [t10, t11, f13, f15, f16, f20, f21, f22, f23]) (by simp [f21, f23]))
        ·intro b h0 ha hd
         have t10 : b 10 = true := ha 10 (by decide)
         have t11 : b 11 = true := ha 11 (by decide)
         have t12 : b 12 = true := ha 12 (by decide)
         have f15 : b 15 = false := hd 15 (by decide)
         have f16 : b 16 = false := hd 16 (by decide)
         have f20 : b 20 = false := hd 20 (by decide)
         have f21 : b 21 = false := hd 21 (by decide)
         have f22 : b 22 = false := hd 22 (by decide)
         have f23 : b 23 = false := hd 23 (by decide)
         refine Chain.runK [] 1 fun K hK => ?_; simp [h0, t10, t11, t12, f15, f16, f20, f21, f22, f23]; refine hK _ _ ?_; clear hK K
         exact Chain.nil (Sub.table (by simp [t10, t11, t12, f15, f16, f20, f21, f22, f23]) (by simp [f21, f23]))
        ·intro b h0 ha hd
         have f15 : b 15 = false := hd 15 (by decide)
         have f16 : b 16 = false := hd 16 (by decide)
         have f20 : b 20 = false := hd 20 (by decide)
         have f21 : b 21 = false := hd 21 (by decide)
         have f22 : b 22 = false := hd 22 (by decide)
         have f23 : b 23 = false := hd 23 (by decide)
         refine Chain.runK [] 1 fun K hK => ?_; simp [h0, f15, f16, f20, f21, f22, f23]; refine hK _ _ ?_; clear hK K
         exact Chain.nil (Sub.table (by simp [f15, f16, f20, f21, f22, f23]) (by simp [f21, f23]))
        ·intro b h0 ha hd
         have t10 : b 10 = true := ha 10 (by decide)
         have t11 : b 11 = true := ha 11 (by decide)
         have t12 : b 12 = true := ha 12 (by decide)
         have t13 : b 13 = true := ha 13 (by decide)
         have t14 : b 14 = true := ha 14 (by decide)
         have f16 : b 16 = false := hd 16 (by decide)
         have f20 : b 20 = false := hd 20 (by decide)
         have f21 : b 21 = false := hd 21 (by decide)
         have f22 : b 22 = false := hd 22 (by decide)
         have f23 : b 23 = false := hd 23 (by decide)
         refine Chain.runK [] 1 fun K hK => ?_; simp [h0, t10, t11, t12, t13, t14, f16, f20, f21, f22, f23, hx65k, hx65a, hx65b]; refine hK _ _ ?_; clear hK K
         exact Chain.nil (Sub.table (by simp [t10, t11, t12, t13, t14, f16, f20, f21, f22, f23]) (by simp [f21, f23]))
        ·intro b h0 ha hd
         have t10 : b 10 = true := ha 10 (by decide)
         have t11 : b 11 = true := ha 11 (by decide)
         have t12 : b 12 = true := ha 12 (by decide)
         have t13 : b 13 = true := ha 13 (by decide)
         have t14 : b 14 = true := ha 14 (by decide)
         have t15 : b 15 = true := ha 15 (by decide)
         have f20 : b 20 = false := hd 20 (by decide)
         have f21 : b 21 = false := hd 21 (by decide)
         have f22 : b 22 = false := hd 22 (by decide)
         have f23 : b 23 = false := hd 23 (by decide)
         refine Chain.runK [] 1 fun K hK => ?_; simp [h0, t10, t11, t12, t13, t14, t15, f20, f21, f22, f23, hx65]; refine hK _ _ ?_; clear hK K
         exact Chain.nil (Sub.table (by simp [t10, t11, t12, t13, t14, t15, f20, f21, f22, f23]) (by simp [f21, f23]))
        ·intro b h0 ha hd
         have f19 : b 19 = false := hd 19 (by decide)
         have f20 : b 20 = false := hd 20 (by decide)
         have f21 : b 21 = false := hd 21 (by decide)
         have f22 : b 22 = false := hd 22 (by decide)
         have f23 : b 23 = false := hd 23 (by decide)
         refine Chain.runK [] 1 fun K hK => ?_; simp [h0, f19, f20, f21, f22, f23]; refine hK _ _ ?_; clear hK K
         exact Chain.nil (Sub.table (by simp [f19, f20, f21, f22, f23]) (by simp [f21, f23]))
        ·intro b h0 ha hd
         have f19 : b 19 = false := hd 19 (by decide)
         have f20 : b 20 = false := hd 20 (by decide)
         have f21 : b 21 = false := hd 21 (by decide)
         have f22 : b 22 = false := hd 22 (by decide)
         have f23 : b 23 = false := hd 23 (by decide)
         refine Chain.runK [] 1 fun K hK => ?_; simp [h0, f19, f20, f21, f22, f23]; refine hK _ _ ?_; clear hK K
         exact Chain.nil (Sub.table (by simp [f19, f20, f21, f22, f23]) (by simp [f21, f23]))
        ·intro b h0 ha hd
         have t17 : b 17 = true := ha 17 (by decide)
         have t18 : b 18 = true := ha 18 (by decide)
         have f20 : b 20 = false := hd 20 (by decide)
         have f21 : b 21 = false := hd 21 (by decide)
         have f22 : b 22 = false := hd 22 (by decide)
         have f23 : b 23 = false := hd 23 (by decide)
         simp only [h0, t17, t18, f20, f21, f22, f23, if_true, if_false, Bool.false_eq_true]
         refine Chain.callL (d := 203) (p34 N a1 r2 r67 hr67) (by simp) rfl rfl (by simp <;> rfl) (by simp <;> rfl) ent34 (by simp <;> rfl) ?_
         exact Chain.nil (by simp [t17, t18, f20, f21, f22, f23]; exact Sub.table (by simp) (by simp))
        ·intro b h0 ha hd
         have t0 : b 0 = true := ha 0 (by decide)
         have t1 : b 1 = true := ha 1 (by decide)
         have t2 : b 2 = true := ha 2 (by decide)
         have t3 : b 3 = true := ha 3 (by decide)
         have t4 : b 4 = true := ha 4 (by decide)
         have t5 : b 5 = true := ha 5 (by decide)
         have t6 : b 6 = true := ha 6 (by decide)
         have t7 : b 7 = true := ha 7 (by decide)
         have t8 : b 8 = true := ha 8 (by decide)
         have t10 : b 10 = true := ha 10 (by decide)
         have t11 : b 11 = true := ha 11 (by decide)
         have t12 : b 12 = true := ha 12 (by decide)
         have t13 : b 13 = true := ha 13 (by decide)
         have t14 : b 14 = true := ha 14 (by decide)
         have t15 : b 15 = true := ha 15 (by decide)
         have t16 : b 16 = true := ha 16 (by decide)
         have t17 : b 17 = true := ha 17 (by decide)
         have t18 : b 18 = true := ha 18 (by decide)
         have t19 : b 19 = true := ha 19 (by decide)
         have f21 : b 21 = false := hd 21 (by decide)
         have f22 : b 22 = false := hd 22 (by decide)
         have f23 : b 23 = false := hd 23 (by decide)
         refine Chain.runK [] 1 fun K hK => ?_; simp [h0, t0, t1, t2, t3, t4, t5, t6, t7, t8, t10, t11, t12, t13, t14, t15, t16, t17, t18, t19, f21, f22, f23, hx65k, hx68a, hx68b]; refine hK _ _ ?_; clear hK K
         exact Chain.nil (Sub.table (by simp [t0, t1, t2, t3, t4, t5, t6, t7, t8, t10, t11, t12, t13, t14, t15, t16, t17, t18, t19, f21, f22, f23]) (by simp [f21, f23]))
        ·intro b h0 ha hd
         have t0 : b 0 = true := ha 0 (by decide)
         have t1 : b 1 = true := ha 1 (by decide)
         have t2 : b 2 = true := ha 2 (by decide)
         have t3 : b 3 = true := ha 3 (by decide)
         have t4 : b 4 = true := ha 4 (by decide)
         have t5 : b 5 = true := ha 5 (by decide)
         have t6 : b 6 = true := ha 6 (by decide)
         have t7 : b 7 = true := ha 7 (by decide)
         have t8 : b 8 = true := ha 8 (by decide)
         have t10 : b 10 = true := ha 10 (by decide)
         have t11 : b 11 = true := ha 11 (by decide)
         have t12 : b 12 = true := ha 12 (by decide)
         have t13 : b 13 = true := ha 13 (by decide)
         have t14 : b 14 = true := ha 14 (by decide)
         have t15 : b 15 = true := ha 15 (by decide)
         have t16 : b 16 = true := ha 16 (by decide)
         have t17 : b 17 = true := ha 17 (by decide)
         have t18 : b 18 = true := ha 18 (by decide)
         have t19 : b 19 = true := ha 19 (by decide)
         have t20 : b 20 = true := ha 20 (by decide)
         have f22 : b 22 = false := hd 22 (by decide)
         have f23 : b 23 = false := hd 23 (by decide)
         refine Chain.runK [] 1 fun K hK => ?_; simp [h0, t0, t1, t2, t3, t4, t5, t6, t7, t8, t10, t11, t12, t13, t14, t15, t16, t17, t18, t19, t20, f22, f23, hx68, hl69]; refine hK _ _ ?_; clear hK K
         exact Chain.nil (Sub.table (by simp [t0, t1, t2, t4, t5, t6, t7, t8, t10, t11, t12, t13, t14, t15, t16, t17, t18, t19, t20, f22, f23, hl69n]) (by simp [f23, hl69n]))
        ·intro b h0 ha hd
         have t0 : b 0 = true := ha 0 (by decide)
         have t1 : b 1 = true := ha 1 (by decide)
         have t2 : b 2 = true := ha 2 (by decide)
         have t3 : b 3 = true := ha 3 (by decide)
         have t4 : b 4 = true := ha 4 (by decide)
         have t5 : b 5 = true := ha 5 (by decide)
         have t6 : b 6 = true := ha 6 (by decide)
         have t7 : b 7 = true := ha 7 (by decide)
         have t8 : b 8 = true := ha 8 (by decide)
         have t9 : b 9 = true := ha 9 (by decide)
         have t10 : b 10 = true := ha 10 (by decide)
         have t11 : b 11 = true := ha 11 (by decide)
         have t12 : b 12 = true := ha 12 (by decide)
         have t13 : b 13 = true := ha 13 (by decide)
         have t14 : b 14 = true := ha 14 (by decide)
         have t15 : b 15 = true := ha 15 (by decide)
         have t16 : b 16 = true := ha 16 (by decide)
         have t17 : b 17 = true := ha 17 (by decide)
         have t18 : b 18 = true := ha 18 (by decide)
         have t19 : b 19 = true := ha 19 (by decide)
         have t20 : b 20 = true := ha 20 (by decide)
         have t21 : b 21 = true := ha 21 (by decide)
         have f23 : b 23 = false := hd 23 (by decide)
         refine Chain.runK [] 1 fun K hK => ?_; simp [h0, t0, t1, t2, t4, t5, t6, t7, t8, t9, t10, t11, t12, t13, t14, t15, t16, t17, t18, t19, t20, t21, f23, hx65k, hx70a, hx70b]; refine hK _ _ ?_; clear hK K
         exact Chain.nil (Sub.table (by simp [t0, t1, t2, t4, t5, t6, t7, t8, t9, t10, t11, t12, t13, t14, t15, t16, t17, t18, t19, t20, t21, f23]) (by simp [t21, f23]))
        ·intro b h0 ha hd
         have t0 : b 0 = true := ha 0 (by decide)
         have t1 : b 1 = true := ha 1 (by decide)
         have t2 : b 2 = true := ha 2 (by decide)
         have t3 : b 3 = true := ha 3 (by decide)
         have t4 : b 4 = true := ha 4 (by decide)
         have t5 : b 5 = true := ha 5 (by decide)
         have t6 : b 6 = true := ha 6 (by decide)
         have t7 : b 7 = true := ha 7 (by decide)
         have t8 : b 8 = true := ha 8 (by decide)
         have t9 : b 9 = true := ha 9 (by decide)
         have t10 : b 10 = true := ha 10 (by decide)
         have t11 : b 11 = true := ha 11 (by decide)
         have t12 : b 12 = true := ha 12 (by decide)
         have t13 : b 13 = true := ha 13 (by decide)
         have t14 : b 14 = true := ha 14 (by decide)
         have t15 : b 15 = true := ha 15 (by decide)
         have t16 : b 16 = true := ha 16 (by decide)
         have t17 : b 17 = true := ha 17 (by decide)
         have t18 : b 18 = true := ha 18 (by decide)
         have t19 : b 19 = true := ha 19 (by decide)
         have t20 : b 20 = true := ha 20 (by decide)
         have t21 : b 21 = true := ha 21 (by decide)
         have t22 : b 22 = true := ha 22 (by decide)
         refine Chain.runK [] 1 fun K hK => ?_; simp [h0, t0, t1, t2, t4, t5, t6, t7, t8, t9, t10, t11, t12, t13, t14, t15, t16, t17, t18, t19, t20, t21, t22, hx70, hl71]; refine hK _ _ ?_; clear hK K
         exact Chain.nil (Sub.table (by simp [t0, t1, t2, t4, t5, t6, t7, t9, t10, t11, t12, t13, t14, t15, t16, t17, t18, t19, t20, t21, t22, hl71n]) (by simp [t21, hl71n]))
        ·intro b hb
         have t0 := hb 0 (by decide)
         have t1 := hb 1 (by decide)
         have t2 := hb 2 (by decide)
         have t3 := hb 3 (by decide)
         have t4 := hb 4 (by decide)
         have t5 := hb 5 (by decide)
         have t6 := hb 6 (by decide)
         have t7 := hb 7 (by decide)
         have t8 := hb 8 (by decide)
         have t9 := hb 9 (by decide)
         have t10 := hb 10 (by decide)
         have t11 := hb 11 (by decide)
         have t12 := hb 12 (by decide)
         have t13 := hb 13 (by decide)
         have t14 := hb 14 (by decide)
         have t15 := hb 15 (by decide)
         have t16 := hb 16 (by decide)
         have t17 := hb 17 (by decide)
         have t18 := hb 18 (by decide)
         have t19 := hb 19 (by decide)
         have t20 := hb 20 (by decide)
         have t21 := hb 21 (by decide)
         have t22 := hb 22 (by decide)
         have t23 := hb 23 (by decide)
         exact Sub.table (by simp [t0, t1, t2, t4, t5, t6, t7, t9, t10, t11, t12, t13, t14, t15, t16, t17, t18, t19, t20, t21, t22, t23]) (by simp [t21, t23])
        ·skip
         replace h := bsome h; obtain ⟨r72, hr72, h⟩ := h
         replace h := lsome h; obtain ⟨v73, hv73, h⟩ := h
         unfold maxI at hv73
         refine AW.lastAnyS [[], [], [1], [1, 2], [1, 2, 3], [], [], [5, 6], [1, 2, 3, 4, 5, 6, 7], [0, 1, 2, 3, 4, 5, 6, 7, 8], [0, 1, 2, 3, 4, 5, 6, 7, 8, 9], [0, 1, 2, 3, 4, 5, 6, 7, 8, 9, 10]] (fun (b : Nat → Bool) => mk 266 [1000, 2000] [(1, .ptr 2000 0 0), (8, .i r2), (12, .i r63.2), (13, .i 0), (206, (if b 0 then .ptr 2000 0 0 else .junk)), (207, (if b 1 then .ptr 2000 0 0 else .junk)), (208, (if b 2 then .ptr 2000 0 0 else .junk)), (209, (if b 3 then .ptr 2000 0 4 else .junk)), (210, (if b 4 then .i a1.Flushed else .junk)), (211, (if b 5 then .ptr 2000 0 0 else .junk)), (212, (if b 6 then .i r2 else .junk)), (213, (if b 7 then .i r72 else .junk)), (214, (if b 8 then .i v73 else .junk)), (215, (if b 9 then .ptr 2000 0 0 else .junk)), (216, (if b 10 then .ptr 2000 0 4 else .junk))] [(1000, some (.box [.ref 25000 0 r63.1.buffer.length, .ref 25001 0 r63.1.disk.length, .ref 25002 0 r63.1.log.length, .i r63.1.flushed, .i r63.1.lastID, .ref 25005 0 r63.1.active.length, .ref 25006 0 r63.1.writer.length])), (2000, (if b 11 then some (.box [.ref 45000 0 a1.Buffer.length, .ref 45001 0 l69.length, .ref 45002 0 l71.length, .ref 45003 0 a1.Log.length, .i v73, .i a1.LastID, .ref 45006 0 a1.Active.length]) else some (.box [.ref 45000 0 a1.Buffer.length, .ref 45001 0 l69.length, .ref 45002 0 l71.length, .ref 45003 0 a1.Log.length, .i a1.Flushed, .i a1.LastID, .ref 45006 0 a1.Active.length]))), (25000, R78 r63.1.buffer), (25001, R78 r63.1.disk), (25002, R80 r63.1.log), (25005, R3 r63.1.active), (25006, R3 r63.1.writer), (45000, R3 a1.Buffer), (45001, R3 l69), (45002, R3 l71), (45003, R84 a1.Log), (45006, R3 a1.Active)]) (mk 266 [1000, 2000] [(12, .i r63.2), (13, .i 0)] [(1000, some (.box [.ref 25000 0 r63.1.buffer.length, .ref 25001 0 r63.1.disk.length, .ref 25002 0 r63.1.log.length, .i r63.1.flushed, .i r63.1.lastID, .ref 25005 0 r63.1.active.length, .ref 25006 0 r63.1.writer.length])), (2000, some (.box [.ref 45000 0 a1.Buffer.length, .ref 45001 0 l69.length, .ref 45002 0 l71.length, .ref 45003 0 a1.Log.length, .i v73, .i a1.LastID, .ref 45006 0 a1.Active.length])), (25000, R78 r63.1.buffer), (25001, R78 r63.1.disk), (25002, R80 r63.1.log), (25005, R3 r63.1.active), (25006, R3 r63.1.writer), (45000, R3 a1.Buffer), (45001, R3 l69), (45002, R3 l71), (45003, R84 a1.Log), (45006, R3 a1.Active)]) (by kernel_rfl) (by kernel_rfl) Sub.tt (Steps.cons ?_ (Steps.cons ?_ (Steps.cons ?_ (Steps.cons ?_ (Steps.cons ?_ (Steps.cons ?_ (Steps.cons ?_ (Steps.cons ?_ (Steps.cons ?_ (Steps.cons ?_ (Steps.cons ?_ (Steps.cons ?_ (Steps.nil))))))))))))) ?_ ?_
         ·intro b h0 ha hd
          have f9 : b 9 = false := hd 9 (by decide)
          have f10 : b 10 = false := hd 10 (by decide)
          have f11 : b 11 = false := hd 11 (by decide)
          refine Chain.runK [] 1 fun K hK => ?_; simp [h0, f9, f10, f11]; refine hK _ _ ?_; clear hK K
          exact Chain.nil (Sub.table (by simp [f9, f10]) (by simp [f11]))
         ·intro b h0 ha hd
          have f2 : b 2 = false := hd 2 (by decide)
          have f3 : b 3 = false := hd 3 (by decide)
          have f4 : b 4 = false := hd 4 (by decide)
          have f8 : b 8 = false := hd 8 (by decide)
          have f9 : b 9 = false := hd 9 (by decide)
          have f10 : b 10 = false := hd 10 (by decide)
          have f11 : b 11 = false := hd 11 (by decide)
          refine Chain.runK [] 1 fun K hK => ?_; simp [h0, f2, f3, f4, f8, f9, f10, f11]; refine hK _ _ ?_; clear hK K
          exact Chain.nil (Sub.table (by simp [f2, f3, f4, f8, f9, f10]) (by simp [f11]))
         ·intro b h0 ha hd
          have t1 : b 1 = true := ha 1 (by decide)
          have f3 : b 3 = false := hd 3 (by decide)
          have f4 : b 4 = false := hd 4 (by decide)
          have f8 : b 8 = false := hd 8 (by decide)
          have f9 : b 9 = false := hd 9 (by decide)
          have f10 : b 10 = false := hd 10 (by decide)
          have f11 : b 11 = false := hd 11 (by decide)
          refine Chain.runK [] 1 fun K hK => ?_; simp [h0, t1, f3, f4, f8, f9, f10, f11]; refine hK _ _ ?_; clear hK K
          exact Chain.nil (Sub.table (by simp [t1, f3, f4, f8, f9, f10]) (by simp [f11]))
         ·intro b h0 ha hd
          have t1 : b 1 = true := ha 1 (by decide)
          have t2 : b 2 = true := ha 2 (by decide)
          have f4 : b 4 = false := hd 4 (by decide)
          have f8 : b 8 = false := hd 8 (by decide)
          have f9 : b 9 = false := hd 9 (by decide)
          have f10 : b 10 = false := hd 10 (by decide)
          have f11 : b 11 = false := hd 11 (by decide)
          refine Chain.runK [] 1 fun K hK => ?_; simp [h0, t1, t2, f4, f8, f9, f10, f11]; refine hK _ _ ?_; clear hK K
          exact Chain.nil (Sub.table (by simp [t1, t2, f4, f8, f9, f10]) (by simp [f11]))
         ·intro b h0 ha hd
          have t1 : b 1 = true := ha 1 (by decide)
          have t2 : b 2 = true := ha 2 (by decide)
          have t3 : b 3 = true := ha 3 (by decide)
          have f8 : b 8 = false := hd 8 (by decide)
          have f9 : b 9 = false := hd 9 (by decide)
          have f10 : b 10 = false := hd 10 (by decide)
          have f11 : b 11 = false := hd 11 (by decide)
          refine Chain.runK [] 1 fun K hK => ?_; simp [h0, t1, t2, t3, f8, f9, f10, f11]; refine hK _ _ ?_; clear hK K
          exact Chain.nil (Sub.table (by simp [t1, t2, t3, f8, f9, f10]) (by simp [f11]))
         ·intro b h0 ha hd
          have f7 : b 7 = false := hd 7 (by decide)
          have f8 : b 8 = false := hd 8 (by decide)
          have f9 : b 9 = false := hd 9 (by decide)
          have f10 : b 10 = false := hd 10 (by decide)
          have f11 : b 11 = false := hd 11 (by decide)
          refine Chain.runK [] 1 fun K hK => ?_; simp [h0, f7, f8, f9, f10, f11]; refine hK _ _ ?_; clear hK K
          exact Chain.nil (Sub.table (by simp [f7, f8, f9, f10]) (by simp [f11]))
         ·intro b h0 ha hd
          have f7 : b 7 = false := hd 7 (by decide)
          have f8 : b 8 = false := hd 8 (by decide)
          have f9 : b 9 = false := hd 9 (by decide)
          have f10 : b 10 = false := hd 10 (by decide)
          have f11 : b 11 = false := hd 11 (by decide)
          refine Chain.runK [] 1 fun K hK => ?_; simp [h0, f7, f8, f9, f10, f11]; refine hK _ _ ?_; clear hK K
          exact Chain.nil (Sub.table (by simp [f7, f8, f9, f10]) (by simp [f11]))
         ·intro b h0 ha hd
          have t5 : b 5 = true := ha 5 (by decide)
          have t6 : b 6 = true := ha 6 (by decide)
          have f8 : b 8 = false := hd 8 (by decide)
          have f9 : b 9 = false := hd 9 (by decide)
          have f10 : b 10 = false := hd 10 (by decide)
          have f11 : b 11 = false := hd 11 (by decide)
          simp only [h0, t5, t6, f8, f9, f10, f11, if_true, if_false, Bool.false_eq_true]
          refine Chain.callL (d := 213) (p34 N (S56.mk a1.Buffer l69 l71 a1.Log a1.Flushed a1.LastID a1.Active) r2 r72 hr72) (by simp) rfl rfl (by simp <;> rfl) (by simp <;> rfl) ent34 (by simp <;> rfl) ?_
          exact Chain.nil (by simp [t5, t6, f8, f9, f10, f11]; exact Sub.table (by simp) (by simp))
         ·intro b h0 ha hd
          have t1 : b 1 = true := ha 1 (by decide)
          have t2 : b 2 = true := ha 2 (by decide)
          have t3 : b 3 = true := ha 3 (by decide)
          have t4 : b 4 = true := ha 4 (by decide)
          have t5 : b 5 = true := ha 5 (by decide)
          have t6 : b 6 = true := ha 6 (by decide)
          have t7 : b 7 = true := ha 7 (by decide)
          have f9 : b 9 = false := hd 9 (by decide)
          have f10 : b 10 = false := hd 10 (by decide)
          have f11 : b 11 = false := hd 11 (by decide)
          refine Chain.runK [] 1 fun K hK => ?_; simp [h0, t1, t2, t3, t4, t5, t6, t7, f9, f10, f11, hv73]; refine hK _ _ ?_; clear hK K
          exact Chain.nil (Sub.table (by simp [t1, t2, t3, t4, t5, t6, t7, f9, f10]) (by simp [f11]))
         ·intro b h0 ha hd
          have t0 : b 0 = true := ha 0 (by decide)
          have t1 : b 1 = true := ha 1 (by decide)
          have t2 : b 2 = true := ha 2 (by decide)
          have t3 : b 3 = true := ha 3 (by decide)
          have t4 : b 4 = true := ha 4 (by decide)
          have t5 : b 5 = true := ha 5 (by decide)
          have t6 : b 6 = true := ha 6 (by decide)
          have t7 : b 7 = true := ha 7 (by decide)
          have t8 : b 8 = true := ha 8 (by decide)
          have f10 : b 10 = false := hd 10 (by decide)
          have f11 : b 11 = false := hd 11 (by decide)
          refine Chain.runK [] 1 fun K hK => ?_; simp [h0, t0, t1, t2, t3, t4, t5, t6, t7, t8, f10, f11]; refine hK _ _ ?_; clear hK K
          exact Chain.nil (Sub.table (by simp [t0, t1, t2, t3, t4, t5, t6, t7, t8, f10]) (by simp [f11]))
         ·intro b h0 ha hd
          have t0 : b 0 = true := ha 0 (by decide)
          have t1 : b 1 = true := ha 1 (by decide)
          have t2 : b 2 = true := ha 2 (by decide)
          have t3 : b 3 = true := ha 3 (by decide)
          have t4 : b 4 = true := ha 4 (by decide)
          have t5 : b 5 = true := ha 5 (by decide)
          have t6 : b 6 = true := ha 6 (by decide)
          have t7 : b 7 = true := ha 7 (by decide)
          have t8 : b 8 = true := ha 8 (by decide)
          have t9 : b 9 = true := ha 9 (by decide)
          have f11 : b 11 = false := hd 11 (by decide)
          refine Chain.runK [] 1 fun K hK => ?_; simp [h0, t0, t1, t2, t3, t4, t5, t6, t7, t8, t9, f11]; refine hK _ _ ?_; clear hK K
          exact Chain.nil (Sub.table (by simp [t0, t1, t2, t3, t4, t5, t6, t7, t8, t9]) (by simp [f11]))
         ·intro b h0 ha hd
          have t0 : b 0 = true := ha 0 (by decide)
          have t1 : b 1 = true := ha 1 (by decide)
          have t2 : b 2 = true := ha 2 (by decide)
          have t3 : b 3 = true := ha 3 (by decide)
          have t4 : b 4 = true := ha 4 (by decide)
          have t5 : b 5 = true := ha 5 (by decide)
          have t6 : b 6 = true := ha 6 (by decide)
          have t7 : b 7 = true := ha 7 (by decide)
          have t8 : b 8 = true := ha 8 (by decide)
          have t9 : b 9 = true := ha 9 (by decide)
          have t10 : b 10 = true := ha 10 (by decide)
          refine Chain.runK [] 1 fun K hK => ?_; simp [h0, t0, t1, t2, t3, t4, t5, t6, t7, t8, t9, t10]; refine hK _ _ ?_; clear hK K
          exact Chain.nil (Sub.table (by simp [t0, t1, t2, t3, t4, t5, t6, t7, t8, t9, t10]) (by simp))
         ·intro b hb
          have t0 := hb 0 (by decide)
          have t1 := hb 1 (by decide)
          have t2 := hb 2 (by decide)
          have t3 := hb 3 (by decide)
          have t4 := hb 4 (by decide)
          have t5 := hb 5 (by decide)
          have t6 := hb 6 (by decide)
          have t7 := hb 7 (by decide)
          have t8 := hb 8 (by decide)
          have t9 := hb 9 (by decide)
          have t10 := hb 10 (by decide)
          have t11 := hb 11 (by decide)
          exact Sub.table (by simp [t0, t1, t2, t3, t4, t5, t6, t7, t8, t9, t10]) (by simp [t11])
         ·skip
          refine blockQ.normal ?_
          refine thenQ_normal ?_
          refine AW.seqR ?_
          refine Chain.runK [] 4 fun K hK => ?_; simp; refine hK _ _ ?_; clear hK K
          refine Chain.sub (S' := mk 266 [1000, 2000] [(6, .b (r63.2 == 0))] [(1000, some (.box [.ref 25000 0 r63.1.buffer.length, .ref 25001 0 r63.1.disk.length, .ref 25002 0 r63.1.log.length, .i r63.1.flushed, .i r63.1.lastID, .ref 25005 0 r63.1.active.length, .ref 25006 0 r63.1.writer.length])), (2000, some (.box [.ref 45000 0 a1.Buffer.length, .ref 45001 0 l69.length, .ref 45002 0 l71.length, .ref 45003 0 a1.Log.length, .i v73, .i a1.LastID, .ref 45006 0 a1.Active.length])), (25000, R78 r63.1.buffer), (25001, R78 r63.1.disk), (25002, R80 r63.1.log), (25005, R3 r63.1.active), (25006, R3 r63.1.writer), (45000, R3 a1.Buffer), (45001, R3 l69), (45002, R3 l71), (45003, R84 a1.Log), (45006, R3 a1.Active)]) Sub.tt ?_
          refine Chain.nil ?_
          refine AW.ret ?_
          cases h
          exact FinF.ret (by simp) (by simp)
       ·have c64_ : v7 = false := Bool.eq_false_iff.2 c64
        refine AW.condF (b := v7) rfl c64_ ?_
        refine AW.sub (Sub.bool 183 (b := v7) rfl c64_) ?_
        refine AW.sub (S' := mk 266 [1000, 2000] [(1, .ptr 2000 0 0), (8, .i r2), (12, .i r63.2), (13, .i 1), (183, .b false)] [(1000, some (.box [.ref 25000 0 r63.1.buffer.length, .ref 25001 0 r63.1.disk.length, .ref 25002 0 r63.1.log.length, .i r63.1.flushed, .i r63.1.lastID, .ref 25005 0 r63.1.active.length, .ref 25006 0 r63.1.writer.length])), (2000, some (.box [.ref 45000 0 a1.Buffer.length, .ref 45001 0 a1.Disk.length, .ref 45002 0 a1.DiskLSN.length, .ref 45003 0 a1.Log.length, .i a1.Flushed, .i a1.LastID, .ref 45006 0 a1.Active.length])), (25000, R78 r63.1.buffer), (25001, R78 r63.1.disk), (25002, R80 r63.1.log), (25005, R3 r63.1.active), (25006, R3 r63.1.writer), (45000, R3 a1.Buffer), (45001, R3 a1.Disk), (45002, R3 a1.DiskLSN), (45003, R84 a1.Log), (45006, R3 a1.Active)]) (by simp; exact Sub.table (by simp) (by simp)) ?_
        refine AW.skip ?_
        refine blockQ.normal ?_
        refine thenQ_normal ?_
        refine AW.seqR ?_
        refine Chain.runK [] 4 fun K hK => ?_; simp; refine hK _ _ ?_; clear hK K
        refine Chain.sub (S' := mk 266 [1000, 2000] [(6, .b (r63.2 == 1))] [(1000, some (.box [.ref 25000 0 r63.1.buffer.length, .ref 25001 0 r63.1.disk.length, .ref 25002 0 r63.1.log.length, .i r63.1.flushed, .i r63.1.lastID, .ref 25005 0 r63.1.active.length, .ref 25006 0 r63.1.writer.length])), (2000, some (.box [.ref 45000 0 a1.Buffer.length, .ref 45001 0 a1.Disk.length, .ref 45002 0 a1.DiskLSN.length, .ref 45003 0 a1.Log.length, .i a1.Flushed, .i a1.LastID, .ref 45006 0 a1.Active.length])), (25000, R78 r63.1.buffer), (25001, R78 r63.1.disk), (25002, R80 r63.1.log), (25005, R3 r63.1.active), (25006, R3 r63.1.writer), (45000, R3 a1.Buffer), (45001, R3 a1.Disk), (45002, R3 a1.DiskLSN), (45003, R84 a1.Log), (45006, R3 a1.Active)]) Sub.tt ?_
        refine Chain.nil ?_
        refine AW.ret ?_
        cases h
        exact FinF.ret (by simp) (by simp)
      ·have c62_ : (r12 == 5) = false := Bool.eq_false_iff.2 c62
       refine AW.condF (b := (r12 == 5)) rfl c62_ ?_
       refine AW.sub (Sub.bool 178 (b := (r12 == 5)) rfl c62_) ?_
       refine AW.sub (S' := mk 266 [1000, 2000] [(0, .ptr 1000 0 0), (1, .ptr 2000 0 0), (8, .i r2), (10, .b v7), (12, .i 0), (13, .i 0), (44, .i r12), (178, .b false)] [(1000, some (.box [.ref 25000 0 a0.buffer.length, .ref 25001 0 a0.disk.length, .ref 25002 0 a0.log.length, .i a0.flushed, .i a0.lastID, .ref 25005 0 a0.active.length, .ref 25006 0 a0.writer.length])), (2000, some (.box [.ref 45000 0 a1.Buffer.length, .ref 45001 0 a1.Disk.length, .ref 45002 0 a1.DiskLSN.length, .ref 45003 0 a1.Log.length, .i a1.Flushed, .i a1.LastID, .ref 45006 0 a1.Active.length])), (25000, R78 a0.buffer), (25001, R78 a0.disk), (25002, R80 a0.log), (25005, R3 a0.active), (25006, R3 a0.writer), (45000, R3 a1.Buffer), (45001, R3 a1.Disk), (45002, R3 a1.DiskLSN), (45003, R84 a1.Log), (45006, R3 a1.Active)]) (by simp; exact Sub.table (by simp) (by simp)) ?_
       refine AW.seqR ?_
       refine Chain.runK [] 2 fun K hK => ?_; simp; refine hK _ _ ?_; clear hK K
       refine Chain.sub (S' := mk 266 [1000, 2000] [(0, .ptr 1000 0 0), (1, .ptr 2000 0 0), (8, .i r2), (12, .i 0), (13, .i 0), (44, .i r12), (217, .b (r12 == 6))] [(1000, some (.box [.ref 25000 0 a0.buffer.length, .ref 25001 0 a0.disk.length, .ref 25002 0 a0.log.length, .i a0.flushed, .i a0.lastID, .ref 25005 0 a0.active.length, .ref 25006 0 a0.writer.length])), (2000, some (.box [.ref 45000 0 a1.Buffer.length, .ref 45001 0 a1.Disk.length, .ref 45002 0 a1.DiskLSN.length, .ref 45003 0 a1.Log.length, .i a1.Flushed, .i a1.LastID, .ref 45006 0 a1.Active.length])), (25000, R78 a0.buffer), (25001, R78 a0.disk), (25002, R80 a0.log), (25005, R3 a0.active), (25006, R3 a0.writer), (45000, R3 a1.Buffer), (45001, R3 a1.Disk), (45002, R3 a1.DiskLSN), (45003, R84 a1.Log), (45006, R3 a1.Active)]) Sub.tt ?_
       refine Chain.nil ?_
       replace h := isome h; rcases h with ⟨c74, h⟩ | ⟨c74, h⟩
       ·have c74_ : (r12 == 6) = true := c74
        refine AW.condT (b := (r12 == 6)) rfl c74_ ?_
        refine AW.sub (Sub.bool 217 (b := (r12 == 6)) rfl c74_) ?_
        refine AW.sub (S' := mk 266 [1000, 2000] [(0, .ptr 1000 0 0), (1, .ptr 2000 0 0), (8, .i r2), (12, .i 0), (13, .i 0), (44, .i r12), (217, .b true)] [(1000, some (.box [.ref 25000 0 a0.buffer.length, .ref 25001 0 a0.disk.length, .ref 25002 0 a0.log.length, .i a0.flushed, .i a0.lastID, .ref 25005 0 a0.active.length, .ref 25006 0 a0.writer.length])), (2000, some (.box [.ref 45000 0 a1.Buffer.length, .ref 45001 0 a1.Disk.length, .ref 45002 0 a1.DiskLSN.length, .ref 45003 0 a1.Log.length, .i a1.Flushed, .i a1.LastID, .ref 45006 0 a1.Active.length])), (25000, R78 a0.buffer), (25001, R78 a0.disk), (25002, R80 a0.log), (25005, R3 a0.active), (25006, R3 a0.writer), (45000, R3 a1.Buffer), (45001, R3 a1.Disk), (45002, R3 a1.DiskLSN), (45003, R84 a1.Log), (45006, R3 a1.Active)]) (by simp; exact Sub.table (by simp) (by simp)) ?_
        refine AW.seqR ?_
        refine Chain.runK [] 2 fun K hK => ?_; simp; refine hK _ _ ?_; clear hK K
        refine Chain.sub (S' := mk 266 [1000, 2000] [(1, .ptr 2000 0 0), (8, .i r2), (219, .ptr 1000 0 0), (220, .i r2)] [(1000, some (.box [.ref 25000 0 a0.buffer.length, .ref 25001 0 a0.disk.length, .ref 25002 0 a0.log.length, .i a0.flushed, .i a0.lastID, .ref 25005 0 a0.active.length, .ref 25006 0 a0.writer.length])), (2000, some (.box [.ref 45000 0 a1.Buffer.length, .ref 45001 0 a1.Disk.length, .ref 45002 0 a1.DiskLSN.length, .ref 45003 0 a1.Log.length, .i a1.Flushed, .i a1.LastID, .ref 45006 0 a1.Active.length])), (25000, R78 a0.buffer), (25001, R78 a0.disk), (25002, R80 a0.log), (25005, R3 a0.active), (25006, R3 a0.writer), (45000, R3 a1.Buffer), (45001, R3 a1.Disk), (45002, R3 a1.DiskLSN), (45003, R84 a1.Log), (45006, R3 a1.Active)]) Sub.tt ?_
        replace h := bsome h; obtain ⟨r75, hr75, h⟩ := h
        refine Chain.callF (p35 N a0 r2 r75 hr75) [(1000, 1000), (25000, 25000), (25001, 25001), (25002, 25002), (25005, 25005), (25006, 25006)] [1000] [(1000, 1000), (25000, 25000), (25001, 25001), (25002, 25002), (25005, 25005), (25006, 25006)] [(1000, (.box [.ref 25000 0 r75.1.buffer.length, .ref 25001 0 r75.1.disk.length, .ref 25002 0 r75.1.log.length, .d (.lit (.int .i64 r75.1.flushed)), .d (.lit (.int .i64 r75.1.lastID)), .ref 25005 0 r75.1.active.length, .ref 25006 0 r75.1.writer.length])), (25000, (.arr 78 2 (r75.1.buffer.map cS78))), (25001, (.arr 78 2 (r75.1.disk.map cS78))), (25002, (.arr 80 5 (r75.1.log.map cS80))), (25005, (.arr 3 1 (r75.1.active.map (cI .i64)))), (25006, (.arr 3 1 (r75.1.writer.map (cI .i64))))] (.d (.lit (.int .i64 r75.2))) (by simp) rfl (by simp <;> rfl) (by simp) (by simp) (by simp) (by simp) (by simp) ent35 (by simp) (by simp) (by simp) (by simp) (by simp) (by simp) ?_
        refine Chain.sub (S' := mk 266 [1000, 2000] [(1, .ptr 2000 0 0), (8, .i r2), (219, .ptr 1000 0 0), (220, .i r2), (221, .i r75.2)] [(1000, some (.box [.ref 25000 0 r75.1.buffer.length, .ref 25001 0 r75.1.disk.length, .ref 25002 0 r75.1.log.length, .i r75.1.flushed, .i r75.1.lastID, .ref 25005 0 r75.1.active.length, .ref 25006 0 r75.1.writer.length])), (2000, some (.box [.ref 45000 0 a1.Buffer.length, .ref 45001 0 a1.Disk.length, .ref 45002 0 a1.DiskLSN.length, .ref 45003 0 a1.Log.length, .i a1.Flushed, .i a1.LastID, .ref 45006 0 a1.Active.length])), (25000, R78 r75.1.buffer), (25001, R78 r75.1.disk), (25002, R80 r75.1.log), (25005, R3 r75.1.active), (25006, R3 r75.1.writer), (45000, R3 a1.Buffer), (45001, R3 a1.Disk), (45002, R3 a1.DiskLSN), (45003, R84 a1.Log), (45006, R3 a1.Active)]) (by simp; exact Sub.table (by simp) (by simp)) ?_
        refine Chain.runK [] 1 fun K hK => ?_; simp; refine hK _ _ ?_; clear hK K
        refine Chain.sub (S' := mk 266 [1000, 2000] [(1, .ptr 2000 0 0), (8, .i r2), (12, .i r75.2)] [(1000, some (.box [.ref 25000 0 r75.1.buffer.length, .ref 25001 0 r75.1.disk.length, .ref 25002 0 r75.1.log.length, .i r75.1.flushed, .i r75.1.lastID, .ref 25005 0 r75.1.active.length, .ref 25006 0 r75.1.writer.length])), (2000, some (.box [.ref 45000 0 a1.Buffer.length, .ref 45001 0 a1.Disk.length, .ref 45002 0 a1.DiskLSN.length, .ref 45003 0 a1.Log.length, .i a1.Flushed, .i a1.LastID, .ref 45006 0 a1.Active.length])), (25000, R78 r75.1.buffer), (25001, R78 r75.1.disk), (25002, R80 r75.1.log), (25005, R3 r75.1.active), (25006, R3 r75.1.writer), (45000, R3 a1.Buffer), (45001, R3 a1.Disk), (45002, R3 a1.DiskLSN), (45003, R84 a1.Log), (45006, R3 a1.Active)]) Sub.tt ?_
        refine Chain.nil ?_
        refine AW.seqR ?_
        refine Chain.runK [] 1 fun K hK => ?_; simp; refine hK _ _ ?_; clear hK K
        refine Chain.sub (S' := mk 266 [1000, 2000] [(1, .ptr 2000 0 0), (8, .i r2), (12, .i r75.2), (13, .i 1)] [(1000, some (.box [.ref 25000 0 r75.1.buffer.length, .ref 25001 0 r75.1.disk.length, .ref 25002 0 r75.1.log.length, .i r75.1.flushed, .i r75.1.lastID, .ref 25005 0 r75.1.active.length, .ref 25006 0 r75.1.writer.length])), (2000, some (.box [.ref 45000 0 a1.Buffer.length, .ref 45001 0 a1.Disk.length, .ref 45002 0 a1.DiskLSN.length, .ref 45003 0 a1.Log.length, .i a1.Flushed, .i a1.LastID, .ref 45006 0 a1.Active.length])), (25000, R78 r75.1.buffer), (25001, R78 r75.1.disk), (25002, R80 r75.1.log), (25005, R3 r75.1.active), (25006, R3 r75.1.writer), (45000, R3 a1.Buffer), (45001, R3 a1.Disk), (45002, R3 a1.DiskLSN), (45003, R84 a1.Log), (45006, R3 a1.Active)]) Sub.tt ?_
        refine Chain.nil ?_
        replace h := bsome h; obtain ⟨v77, hj, h⟩ := h
        refine AW.cutR (mk 266 [1000, 2000] [(1, .ptr 2000 0 0), (8, .i r2), (12, .i r75.2), (13, .i 1), (227, .b v77)] [(1000, some (.box [.ref 25000 0 r75.1.buffer.length, .ref 25001 0 r75.1.disk.length, .ref 25002 0 r75.1.log.length, .i r75.1.flushed, .i r75.1.lastID, .ref 25005 0 r75.1.active.length, .ref 25006 0 r75.1.writer.length])), (2000, some (.box [.ref 45000 0 a1.Buffer.length, .ref 45001 0 a1.Disk.length, .ref 45002 0 a1.DiskLSN.length, .ref 45003 0 a1.Log.length, .i a1.Flushed, .i a1.LastID, .ref 45006 0 a1.Active.length])), (25000, R78 r75.1.buffer), (25001, R78 r75.1.disk), (25002, R80 r75.1.log), (25005, R3 r75.1.active), (25006, R3 r75.1.writer), (45000, R3 a1.Buffer), (45001, R3 a1.Disk), (45002, R3 a1.DiskLSN), (45003, R84 a1.Log), (45006, R3 a1.Active)]) ?_ ?_
        ·clear h; have h := hj; clear hj
         refine Chain.runK [] 3 fun K hK => ?_; simp; refine hK _ _ ?_; clear hK K
         refine Chain.sub (S' := mk 266 [1000, 2000] [(1, .ptr 2000 0 0), (8, .i r2), (12, .i r75.2), (13, .i 1), (224, .b (decide (r2 ≥ 0)))] [(1000, some (.box [.ref 25000 0 r75.1.buffer.length, .ref 25001 0 r75.1.disk.length, .ref 25002 0 r75.1.log.length, .i r75.1.flushed, .i r75.1.lastID, .ref 25005 0 r75.1.active.length, .ref 25006 0 r75.1.writer.length])), (2000, some (.box [.ref 45000 0 a1.Buffer.length, .ref 45001 0 a1.Disk.length, .ref 45002 0 a1.DiskLSN.length, .ref 45003 0 a1.Log.length, .i a1.Flushed, .i a1.LastID, .ref 45006 0 a1.Active.length])), (25000, R78 r75.1.buffer), (25001, R78 r75.1.disk), (25002, R80 r75.1.log), (25005, R3 r75.1.active), (25006, R3 r75.1.writer), (45000, R3 a1.Buffer), (45001, R3 a1.Disk), (45002, R3 a1.DiskLSN), (45003, R84 a1.Log), (45006, R3 a1.Active)]) Sub.tt ?_
         replace h := isome h; rcases h with ⟨c78, h⟩ | ⟨c78, h⟩
         ·have c78_ : decide (r2 ≥ 0) = true := decide_eq_true c78
          refine Chain.sub (Sub.bool 224 (b := decide (r2 ≥ 0)) rfl c78_) ?_
          refine Chain.sub (S' := mk 266 [1000, 2000] [(1, .ptr 2000 0 0), (8, .i r2), (12, .i r75.2), (13, .i 1), (224, .b true)] [(1000, some (.box [.ref 25000 0 r75.1.buffer.length, .ref 25001 0 r75.1.disk.length, .ref 25002 0 r75.1.log.length, .i r75.1.flushed, .i r75.1.lastID, .ref 25005 0 r75.1.active.length, .ref 25006 0 r75.1.writer.length])), (2000, some (.box [.ref 45000 0 a1.Buffer.length, .ref 45001 0 a1.Disk.length, .ref 45002 0 a1.DiskLSN.length, .ref 45003 0 a1.Log.length, .i a1.Flushed, .i a1.LastID, .ref 45006 0 a1.Active.length])), (25000, R78 r75.1.buffer), (25001, R78 r75.1.disk), (25002, R80 r75.1.log), (25005, R3 r75.1.active), (25006, R3 r75.1.writer), (45000, R3 a1.Buffer), (45001, R3 a1.Disk), (45002, R3 a1.DiskLSN), (45003, R84 a1.Log), (45006, R3 a1.Active)]) (by simp; exact Sub.table (by simp) (by simp)) ?_
          refine Chain.runK [] 3 fun K hK => ?_; simp; refine hK _ _ ?_; clear hK K
          refine Chain.sub (S' := mk 266 [1000, 2000] [(1, .ptr 2000 0 0), (8, .i r2), (12, .i r75.2), (13, .i 1), (227, .b (decide (r2 ≤ 2000)))] [(1000, some (.box [.ref 25000 0 r75.1.buffer.length, .ref 25001 0 r75.1.disk.length, .ref 25002 0 r75.1.log.length, .i r75.1.flushed, .i r75.1.lastID, .ref 25005 0 r75.1.active.length, .ref 25006 0 r75.1.writer.length])), (2000, some (.box [.ref 45000 0 a1.Buffer.length, .ref 45001 0 a1.Disk.length, .ref 45002 0 a1.DiskLSN.length, .ref 45003 0 a1.Log.length, .i a1.Flushed, .i a1.LastID, .ref 45006 0 a1.Active.length])), (25000, R78 r75.1.buffer), (25001, R78 r75.1.disk), (25002, R80 r75.1.log), (25005, R3 r75.1.active), (25006, R3 r75.1.writer), (45000, R3 a1.Buffer), (45001, R3 a1.Disk), (45002, R3 a1.DiskLSN), (45003, R84 a1.Log), (45006, R3 a1.Active)]) Sub.tt ?_
          cases h
          exact Chain.nil Sub.tt
         ·have c78_ : decide (r2 ≥ 0) = false := decide_eq_false c78
          refine Chain.sub (Sub.bool 224 (b := decide (r2 ≥ 0)) rfl c78_) ?_
          refine Chain.sub (S' := mk 266 [1000, 2000] [(1, .ptr 2000 0 0), (8, .i r2), (12, .i r75.2), (13, .i 1), (224, .b false)] [(1000, some (.box [.ref 25000 0 r75.1.buffer.length, .ref 25001 0 r75.1.disk.length, .ref 25002 0 r75.1.log.length, .i r75.1.flushed, .i r75.1.lastID, .ref 25005 0 r75.1.active.length, .ref 25006 0 r75.1.writer.length])), (2000, some (.box [.ref 45000 0 a1.Buffer.length, .ref 45001 0 a1.Disk.length, .ref 45002 0 a1.DiskLSN.length, .ref 45003 0 a1.Log.length, .i a1.Flushed, .i a1.LastID, .ref 45006 0 a1.Active.length])), (25000, R78 r75.1.buffer), (25001, R78 r75.1.disk), (25002, R80 r75.1.log), (25005, R3 r75.1.active), (25006, R3 r75.1.writer), (45000, R3 a1.Buffer), (45001, R3 a1.Disk), (45002, R3 a1.DiskLSN), (45003, R84 a1.Log), (45006, R3 a1.Active)]) (by simp; exact Sub.table (by simp) (by simp)) ?_
          refine Chain.runK [] 3 fun K hK => ?_; simp; refine hK _ _ ?_; clear hK K
          refine Chain.sub (S' := mk 266 [1000, 2000] [(1, .ptr 2000 0 0), (8, .i r2), (12, .i r75.2), (13, .i 1), (227, .b false)] [(1000, some (.box [.ref 25000 0 r75.1.buffer.length, .ref 25001 0 r75.1.disk.length, .ref 25002 0 r75.1.log.length, .i r75.1.flushed, .i r75.1.lastID, .ref 25005 0 r75.1.active.length, .ref 25006 0 r75.1.writer.length])), (2000, some (.box [.ref 45000 0 a1.Buffer.length, .ref 45001 0 a1.Disk.length, .ref 45002 0 a1.DiskLSN.length, .ref 45003 0 a1.Log.length, .i a1.Flushed, .i a1.LastID, .ref 45006 0 a1.Active.length])), (25000, R78 r75.1.buffer), (25001, R78 r75.1.disk), (25002, R80 r75.1.log), (25005, R3 r75.1.active), (25006, R3 r75.1.writer), (45000, R3 a1.Buffer), (45001, R3 a1.Disk), (45002, R3 a1.DiskLSN), (45003, R84 a1.Log), (45006, R3 a1.Active)]) Sub.tt ?_
          cases h
          exact Chain.nil Sub.tt
        ·clear hj
         replace h := isome h; rcases h with ⟨c79, h⟩ | ⟨c79, h⟩
         ·have c79_ : v77 = true := c79
          refine AW.condT (b := v77) rfl c79_ ?_
          refine AW.sub (Sub.bool 227 (b := v77) rfl c79_) ?_
          refine AW.sub (S' := mk 266 [1000, 2000] [(1, .ptr 2000 0 0), (8, .i r2), (12, .i r75.2), (13, .i 1), (227, .b true)] [(1000, some (.box [.ref 25000 0 r75.1.buffer.length, .ref 25001 0 r75.1.disk.length, .ref 25002 0 r75.1.log.length, .i r75.1.flushed, .i r75.1.lastID, .ref 25005 0 r75.1.active.length, .ref 25006 0 r75.1.writer.length])), (2000, some (.box [.ref 45000 0 a1.Buffer.length, .ref 45001 0 a1.Disk.length, .ref 45002 0 a1.DiskLSN.length, .ref 45003 0 a1.Log.length, .i a1.Flushed, .i a1.LastID, .ref 45006 0 a1.Active.length])), (25000, R78 r75.1.buffer), (25001, R78 r75.1.disk), (25002, R80 r75.1.log), (25005, R3 r75.1.active), (25006, R3 r75.1.writer), (45000, R3 a1.Buffer), (45001, R3 a1.Disk), (45002, R3 a1.DiskLSN), (45003, R84 a1.Log), (45006, R3 a1.Active)]) (by simp; exact Sub.table (by simp) (by simp)) ?_
          refine AW.seqR ?_
          refine Chain.runK [] 1 fun K hK => ?_; simp; refine hK _ _ ?_; clear hK K
          refine Chain.sub (S' := mk 266 [1000, 2000] [(1, .ptr 2000 0 0), (8, .i r2), (12, .i r75.2), (13, .i 0)] [(1000, some (.box [.ref 25000 0 r75.1.buffer.length, .ref 25001 0 r75.1.disk.length, .ref 25002 0 r75.1.log.length, .i r75.1.flushed, .i r75.1.lastID, .ref 25005 0 r75.1.active.length, .ref 25006 0 r75.1.writer.length])), (2000, some (.box [.ref 45000 0 a1.Buffer.length, .ref 45001 0 a1.Disk.length, .ref 45002 0 a1.DiskLSN.length, .ref 45003 0 a1.Log.length, .i a1.Flushed, .i a1.LastID, .ref 45006 0 a1.Active.length])), (25000, R78 r75.1.buffer), (25001, R78 r75.1.disk), (25002, R80 r75.1.log), (25005, R3 r75.1.active), (25006, R3 r75.1.writer), (45000, R3 a1.Buffer), (45001, R3 a1.Disk), (45002, R3 a1.DiskLSN), (45003, R84 a1.Log), (45006, R3 a1.Active)]) Sub.tt ?_
          refine Chain.nil ?_
          replace h := bsome h; obtain ⟨v80, hv80, h⟩ := h
          have hv80 := chkI_some hv80
          replace h := lsome h; obtain ⟨v81, hv81, h⟩ := h
          unfold minI at hv81
          refine AW.regionT 15 (by kernel_rfl) (by kernel_rfl) fun K hK => ?_; simp [hv80, hv81]; refine hK _ _ ?_; clear hK K
          refine Chain.sub (S' := mk 266 [1000, 2000] [(12, .i r75.2), (13, .i 0), (240, .i v81), (242, .ptr 2000 0 4)] [(1000, some (.box [.ref 25000 0 r75.1.buffer.length, .ref 25001 0 r75.1.disk.length, .ref 25002 0 r75.1.log.length, .i r75.1.flushed, .i r75.1.lastID, .ref 25005 0 r75.1.active.length, .ref 25006 0 r75.1.writer.length])), (2000, some (.box [.ref 45000 0 a1.Buffer.length, .ref 45001 0 a1.Disk.length, .ref 45002 0 a1.DiskLSN.length, .ref 45003 0 a1.Log.length, .i a1.Flushed, .i a1.LastID, .ref 45006 0 a1.Active.length])), (25000, R78 r75.1.buffer), (25001, R78 r75.1.disk), (25002, R80 r75.1.log), (25005, R3 r75.1.active), (25006, R3 r75.1.writer), (45000, R3 a1.Buffer), (45001, R3 a1.Disk), (45002, R3 a1.DiskLSN), (45003, R84 a1.Log), (45006, R3 a1.Active)]) Sub.tt ?_
          refine Chain.runK [] 1 fun K hK => ?_; simp; refine hK _ _ ?_; clear hK K
          refine Chain.sub (S' := mk 266 [1000, 2000] [(12, .i r75.2), (13, .i 0)] [(1000, some (.box [.ref 25000 0 r75.1.buffer.length, .ref 25001 0 r75.1.disk.length, .ref 25002 0 r75.1.log.length, .i r75.1.flushed, .i r75.1.lastID, .ref 25005 0 r75.1.active.length, .ref 25006 0 r75.1.writer.length])), (2000, some (.box [.ref 45000 0 a1.Buffer.length, .ref 45001 0 a1.Disk.length, .ref 45002 0 a1.DiskLSN.length, .ref 45003 0 a1.Log.length, .i v81, .i a1.LastID, .ref 45006 0 a1.Active.length])), (25000, R78 r75.1.buffer), (25001, R78 r75.1.disk), (25002, R80 r75.1.log), (25005, R3 r75.1.active), (25006, R3 r75.1.writer), (45000, R3 a1.Buffer), (45001, R3 a1.Disk), (45002, R3 a1.DiskLSN), (45003, R84 a1.Log), (45006, R3 a1.Active)]) Sub.tt ?_
          refine Chain.nil ?_
          refine blockQ.normal ?_
          refine thenQ_normal ?_
          refine AW.seqR ?_
          refine Chain.runK [] 4 fun K hK => ?_; simp; refine hK _ _ ?_; clear hK K
          refine Chain.sub (S' := mk 266 [1000, 2000] [(6, .b (r75.2 == 0))] [(1000, some (.box [.ref 25000 0 r75.1.buffer.length, .ref 25001 0 r75.1.disk.length, .ref 25002 0 r75.1.log.length, .i r75.1.flushed, .i r75.1.lastID, .ref 25005 0 r75.1.active.length, .ref 25006 0 r75.1.writer.length])), (2000, some (.box [.ref 45000 0 a1.Buffer.length, .ref 45001 0 a1.Disk.length, .ref 45002 0 a1.DiskLSN.length, .ref 45003 0 a1.Log.length, .i v81, .i a1.LastID, .ref 45006 0 a1.Active.length])), (25000, R78 r75.1.buffer), (25001, R78 r75.1.disk), (25002, R80 r75.1.log), (25005, R3 r75.1.active), (25006, R3 r75.1.writer), (45000, R3 a1.Buffer), (45001, R3 a1.Disk), (45002, R3 a1.DiskLSN), (45003, R84 a1.Log), (45006, R3 a1.Active)]) Sub.tt ?_
          refine Chain.nil ?_
          refine AW.ret ?_
          cases h
          exact FinF.ret (by simp) (by simp)
         ·have c79_ : v77 = false := Bool.eq_false_iff.2 c79
          refine AW.condF (b := v77) rfl c79_ ?_
          refine AW.sub (Sub.bool 227 (b := v77) rfl c79_) ?_
          refine AW.sub (S' := mk 266 [1000, 2000] [(1, .ptr 2000 0 0), (8, .i r2), (12, .i r75.2), (13, .i 1), (227, .b false)] [(1000, some (.box [.ref 25000 0 r75.1.buffer.length, .ref 25001 0 r75.1.disk.length, .ref 25002 0 r75.1.log.length, .i r75.1.flushed, .i r75.1.lastID, .ref 25005 0 r75.1.active.length, .ref 25006 0 r75.1.writer.length])), (2000, some (.box [.ref 45000 0 a1.Buffer.length, .ref 45001 0 a1.Disk.length, .ref 45002 0 a1.DiskLSN.length, .ref 45003 0 a1.Log.length, .i a1.Flushed, .i a1.LastID, .ref 45006 0 a1.Active.length])), (25000, R78 r75.1.buffer), (25001, R78 r75.1.disk), (25002, R80 r75.1.log), (25005, R3 r75.1.active), (25006, R3 r75.1.writer), (45000, R3 a1.Buffer), (45001, R3 a1.Disk), (45002, R3 a1.DiskLSN), (45003, R84 a1.Log), (45006, R3 a1.Active)]) (by simp; exact Sub.table (by simp) (by simp)) ?_
          refine AW.skip ?_
          refine blockQ.normal ?_
          refine thenQ_normal ?_
          refine AW.seqR ?_
          refine Chain.runK [] 4 fun K hK => ?_; simp; refine hK _ _ ?_; clear hK K
          refine Chain.sub (S' := mk 266 [1000, 2000] [(6, .b (r75.2 == 1))] [(1000, some (.box [.ref 25000 0 r75.1.buffer.length, .ref 25001 0 r75.1.disk.length, .ref 25002 0 r75.1.log.length, .i r75.1.flushed, .i r75.1.lastID, .ref 25005 0 r75.1.active.length, .ref 25006 0 r75.1.writer.length])), (2000, some (.box [.ref 45000 0 a1.Buffer.length, .ref 45001 0 a1.Disk.length, .ref 45002 0 a1.DiskLSN.length, .ref 45003 0 a1.Log.length, .i a1.Flushed, .i a1.LastID, .ref 45006 0 a1.Active.length])), (25000, R78 r75.1.buffer), (25001, R78 r75.1.disk), (25002, R80 r75.1.log), (25005, R3 r75.1.active), (25006, R3 r75.1.writer), (45000, R3 a1.Buffer), (45001, R3 a1.Disk), (45002, R3 a1.DiskLSN), (45003, R84 a1.Log), (45006, R3 a1.Active)]) Sub.tt ?_
          refine Chain.nil ?_
          refine AW.ret ?_
          cases h
          exact FinF.ret (by simp) (by simp)
       ·have c74_ : (r12 == 6) = false := Bool.eq_false_iff.2 c74
        refine AW.condF (b := (r12 == 6)) rfl c74_ ?_
        refine AW.sub (Sub.bool 217 (b := (r12 == 6)) rfl c74_) ?_
        refine AW.sub (S' := mk 266 [1000, 2000] [(0, .ptr 1000 0 0), (1, .ptr 2000 0 0), (8, .i r2), (12, .i 0), (13, .i 0), (44, .i r12), (217, .b false)] [(1000, some (.box [.ref 25000 0 a0.buffer.length, .ref 25001 0 a0.disk.length, .ref 25002 0 a0.log.length, .i a0.flushed, .i a0.lastID, .ref 25005 0 a0.active.length, .ref 25006 0 a0.writer.length])), (2000, some (.box [.ref 45000 0 a1.Buffer.length, .ref 45001 0 a1.Disk.length, .ref 45002 0 a1.DiskLSN.length, .ref 45003 0 a1.Log.length, .i a1.Flushed, .i a1.LastID, .ref 45006 0 a1.Active.length])), (25000, R78 a0.buffer), (25001, R78 a0.disk), (25002, R80 a0.log), (25005, R3 a0.active), (25006, R3 a0.writer), (45000, R3 a1.Buffer), (45001, R3 a1.Disk), (45002, R3 a1.DiskLSN), (45003, R84 a1.Log), (45006, R3 a1.Active)]) (by simp; exact Sub.table (by simp) (by simp)) ?_
        refine AW.seqR ?_
        refine Chain.runK [] 2 fun K hK => ?_; simp; refine hK _ _ ?_; clear hK K
        refine Chain.sub (S' := mk 266 [1000, 2000] [(0, .ptr 1000 0 0), (1, .ptr 2000 0 0), (12, .i 0), (13, .i 0), (243, .b (r12 == 7))] [(1000, some (.box [.ref 25000 0 a0.buffer.length, .ref 25001 0 a0.disk.length, .ref 25002 0 a0.log.length, .i a0.flushed, .i a0.lastID, .ref 25005 0 a0.active.length, .ref 25006 0 a0.writer.length])), (2000, some (.box [.ref 45000 0 a1.Buffer.length, .ref 45001 0 a1.Disk.length, .ref 45002 0 a1.DiskLSN.length, .ref 45003 0 a1.Log.length, .i a1.Flushed, .i a1.LastID, .ref 45006 0 a1.Active.length])), (25000, R78 a0.buffer), (25001, R78 a0.disk), (25002, R80 a0.log), (25005, R3 a0.active), (25006, R3 a0.writer), (45000, R3 a1.Buffer), (45001, R3 a1.Disk), (45002, R3 a1.DiskLSN), (45003, R84 a1.Log), (45006, R3 a1.Active)]) Sub.tt ?_
        refine Chain.nil ?_
        replace h := isome h; rcases h with ⟨c82, h⟩ | ⟨c82, h⟩
        ·have c82_ : (r12 == 7) = true := c82
         refine AW.condT (b := (r12 == 7)) rfl c82_ ?_
         refine AW.sub (Sub.bool 243 (b := (r12 == 7)) rfl c82_) ?_
         refine AW.sub (S' := mk 266 [1000, 2000] [(0, .ptr 1000 0 0), (1, .ptr 2000 0 0), (12, .i 0), (13, .i 0), (243, .b true)] [(1000, some (.box [.ref 25000 0 a0.buffer.length, .ref 25001 0 a0.disk.length, .ref 25002 0 a0.log.length, .i a0.flushed, .i a0.lastID, .ref 25005 0 a0.active.length, .ref 25006 0 a0.writer.length])), (2000, some (.box [.ref 45000 0 a1.Buffer.length, .ref 45001 0 a1.Disk.length, .ref 45002 0 a1.DiskLSN.length, .ref 45003 0 a1.Log.length, .i a1.Flushed, .i a1.LastID, .ref 45006 0 a1.Active.length])), (25000, R78 a0.buffer), (25001, R78 a0.disk), (25002, R80 a0.log), (25005, R3 a0.active), (25006, R3 a0.writer), (45000, R3 a1.Buffer), (45001, R3 a1.Disk), (45002, R3 a1.DiskLSN), (45003, R84 a1.Log), (45006, R3 a1.Active)]) (by simp; exact Sub.table (by simp) (by simp)) ?_
         refine AW.seqR ?_
         refine Chain.runK [] 1 fun K hK => ?_; simp; refine hK _ _ ?_; clear hK K
         refine Chain.sub (S' := mk 266 [1000, 2000] [(1, .ptr 2000 0 0), (246, .ptr 1000 0 0)] [(1000, some (.box [.ref 25000 0 a0.buffer.length, .ref 25001 0 a0.disk.length, .ref 25002 0 a0.log.length, .i a0.flushed, .i a0.lastID, .ref 25005 0 a0.active.length, .ref 25006 0 a0.writer.length])), (2000, some (.box [.ref 45000 0 a1.Buffer.length, .ref 45001 0 a1.Disk.length, .ref 45002 0 a1.DiskLSN.length, .ref 45003 0 a1.Log.length, .i a1.Flushed, .i a1.LastID, .ref 45006 0 a1.Active.length])), (25000, R78 a0.buffer), (25001, R78 a0.disk), (25002, R80 a0.log), (25005, R3 a0.active), (25006, R3 a0.writer), (45000, R3 a1.Buffer), (45001, R3 a1.Disk), (45002, R3 a1.DiskLSN), (45003, R84 a1.Log), (45006, R3 a1.Active)]) Sub.tt ?_
         replace h := bsome h; obtain ⟨r83, hr83, h⟩ := h
         refine Chain.callF (p36 N a0 r83 hr83) [(1000, 1000), (25000, 25000), (25001, 25001), (25002, 25002), (25005, 25005), (25006, 25006)] [1000] [(1000, 1000), (25000, 25000), (25001, 25001), (25002, 25002), (25005, 25005), (25006, 25006)] [(1000, (.box [.ref 25000 0 r83.1.buffer.length, .ref 25001 0 r83.1.disk.length, .ref 25002 0 r83.1.log.length, .d (.lit (.int .i64 r83.1.flushed)), .d (.lit (.int .i64 r83.1.lastID)), .ref 25005 0 r83.1.active.length, .ref 25006 0 r83.1.writer.length])), (25000, (.arr 78 2 (r83.1.buffer.map cS78))), (25001, (.arr 78 2 (r83.1.disk.map cS78))), (25002, (.arr 80 5 (r83.1.log.map cS80))), (25005, (.arr 3 1 (r83.1.active.map (cI .i64)))), (25006, (.arr 3 1 (r83.1.writer.map (cI .i64))))] (.tup [.d (.lit (.int .i64 r83.2.1)), .d (.lit (.int .i64 r83.2.2))]) (by simp) rfl (by simp <;> rfl) (by simp) (by simp) (by simp) (by simp) (by simp) ent36 (by simp) (by simp) (by simp) (by simp) (by simp) (by simp) ?_
         refine Chain.sub (S' := mk 266 [1000, 2000] [(1, .ptr 2000 0 0), (246, .ptr 1000 0 0), (247, .tup [.i r83.2.1, .i r83.2.2])] [(1000, some (.box [.ref 25000 0 r83.1.buffer.length, .ref 25001 0 r83.1.disk.length, .ref 25002 0 r83.1.log.length, .i r83.1.flushed, .i r83.1.lastID, .ref 25005 0 r83.1.active.length, .ref 25006 0 r83.1.writer.length])), (2000, some (.box [.ref 45000 0 a1.Buffer.length, .ref 45001 0 a1.Disk.length, .ref 45002 0 a1.DiskLSN.length, .ref 45003 0 a1.Log.length, .i a1.Flushed, .i a1.LastID, .ref 45006 0 a1.Active.length])), (25000, R78 r83.1.buffer), (25001, R78 r83.1.disk), (25002, R80 r83.1.log), (25005, R3 r83.1.active), (25006, R3 r83.1.writer), (45000, R3 a1.Buffer), (45001, R3 a1.Disk), (45002, R3 a1.DiskLSN), (45003, R84 a1.Log), (45006, R3 a1.Active)]) (by simp; exact Sub.table (by simp) (by simp)) ?_
         refine Chain.runK [] 5 fun K hK => ?_; simp; refine hK _ _ ?_; clear hK K
         refine Chain.sub (S' := mk 266 [1000, 2000] [(1, .ptr 2000 0 0), (16, .i r83.2.1), (17, .i r83.2.2)] [(1000, some (.box [.ref 25000 0 r83.1.buffer.length, .ref 25001 0 r83.1.disk.length, .ref 25002 0 r83.1.log.length, .i r83.1.flushed, .i r83.1.lastID, .ref 25005 0 r83.1.active.length, .ref 25006 0 r83.1.writer.length])), (2000, some (.box [.ref 45000 0 a1.Buffer.length, .ref 45001 0 a1.Disk.length, .ref 45002 0 a1.DiskLSN.length, .ref 45003 0 a1.Log.length, .i a1.Flushed, .i a1.LastID, .ref 45006 0 a1.Active.length])), (25000, R78 r83.1.buffer), (25001, R78 r83.1.disk), (25002, R80 r83.1.log), (25005, R3 r83.1.active), (25006, R3 r83.1.writer), (45000, R3 a1.Buffer), (45001, R3 a1.Disk), (45002, R3 a1.DiskLSN), (45003, R84 a1.Log), (45006, R3 a1.Active)]) Sub.tt ?_
         refine Chain.nil ?_
         refine AW.seqR ?_
         refine Chain.runK [] 1 fun K hK => ?_; simp; refine hK _ _ ?_; clear hK K
         refine Chain.sub (S' := mk 266 [1000, 2000] [(16, .i r83.2.1), (17, .i r83.2.2), (251, .ptr 2000 0 0)] [(1000, some (.box [.ref 25000 0 r83.1.buffer.length, .ref 25001 0 r83.1.disk.length, .ref 25002 0 r83.1.log.length, .i r83.1.flushed, .i r83.1.lastID, .ref 25005 0 r83.1.active.length, .ref 25006 0 r83.1.writer.length])), (2000, some (.box [.ref 45000 0 a1.Buffer.length, .ref 45001 0 a1.Disk.length, .ref 45002 0 a1.DiskLSN.length, .ref 45003 0 a1.Log.length, .i a1.Flushed, .i a1.LastID, .ref 45006 0 a1.Active.length])), (25000, R78 r83.1.buffer), (25001, R78 r83.1.disk), (25002, R80 r83.1.log), (25005, R3 r83.1.active), (25006, R3 r83.1.writer), (45000, R3 a1.Buffer), (45001, R3 a1.Disk), (45002, R3 a1.DiskLSN), (45003, R84 a1.Log), (45006, R3 a1.Active)]) Sub.tt ?_
         replace h := bsome h; obtain ⟨r84, hr84, h⟩ := h
         refine Chain.callF (p37 N a1 r84 hr84) [(2000, 1000), (45000, 25000), (45001, 25001), (45002, 25002), (45003, 25003), (45006, 25006)] [2000] [(1000, 2000), (25000, 45000), (25001, 45001), (25002, 45002), (25003, 45003), (25006, 45006)] [(2000, (.box [.ref 45000 0 r84.1.Buffer.length, .ref 45001 0 r84.1.Disk.length, .ref 45002 0 r84.1.DiskLSN.length, .ref 45003 0 r84.1.Log.length, .d (.lit (.int .i64 r84.1.Flushed)), .d (.lit (.int .i64 r84.1.LastID)), .ref 45006 0 r84.1.Active.length])), (45000, (.arr 3 1 (r84.1.Buffer.map (cI .i64)))), (45001, (.arr 3 1 (r84.1.Disk.map (cI .i64)))), (45002, (.arr 3 1 (r84.1.DiskLSN.map (cI .i64)))), (45003, (.arr 84 5 (r84.1.Log.map cS84))), (45006, (.arr 3 1 (r84.1.Active.map (cI .i64))))] (.tup [.d (.lit (.int .i64 r84.2.1)), .d (.lit (.int .i64 r84.2.2))]) (by simp) rfl (by simp <;> rfl) (by simp) (by simp) (by simp) (by simp) (by simp) ent37 (by simp) (by simp) (by simp) (by simp) (by simp) (by simp) ?_
         refine Chain.sub (S' := mk 266 [1000, 2000] [(16, .i r83.2.1), (17, .i r83.2.2), (251, .ptr 2000 0 0), (252, .tup [.i r84.2.1, .i r84.2.2])] [(1000, some (.box [.ref 25000 0 r83.1.buffer.length, .ref 25001 0 r83.1.disk.length, .ref 25002 0 r83.1.log.length, .i r83.1.flushed, .i r83.1.lastID, .ref 25005 0 r83.1.active.length, .ref 25006 0 r83.1.writer.length])), (2000, some (.box [.ref 45000 0 r84.1.Buffer.length, .ref 45001 0 r84.1.Disk.length, .ref 45002 0 r84.1.DiskLSN.length, .ref 45003 0 r84.1.Log.length, .i r84.1.Flushed, .i r84.1.LastID, .ref 45006 0 r84.1.Active.length])), (25000, R78 r83.1.buffer), (25001, R78 r83.1.disk), (25002, R80 r83.1.log), (25005, R3 r83.1.active), (25006, R3 r83.1.writer), (45000, R3 r84.1.Buffer), (45001, R3 r84.1.Disk), (45002, R3 r84.1.DiskLSN), (45003, R84 r84.1.Log), (45006, R3 r84.1.Active)]) (by simp; exact Sub.table (by simp) (by simp)) ?_
         refine Chain.runK [] 5 fun K hK => ?_; simp; refine hK _ _ ?_; clear hK K
         refine Chain.sub (S' := mk 266 [1000, 2000] [(16, .i r83.2.1), (17, .i r83.2.2), (18, .i r84.2.1), (19, .i r84.2.2)] [(1000, some (.box [.ref 25000 0 r83.1.buffer.length, .ref 25001 0 r83.1.disk.length, .ref 25002 0 r83.1.log.length, .i r83.1.flushed, .i r83.1.lastID, .ref 25005 0 r83.1.active.length, .ref 25006 0 r83.1.writer.length])), (2000, some (.box [.ref 45000 0 r84.1.Buffer.length, .ref 45001 0 r84.1.Disk.length, .ref 45002 0 r84.1.DiskLSN.length, .ref 45003 0 r84.1.Log.length, .i r84.1.Flushed, .i r84.1.LastID, .ref 45006 0 r84.1.Active.length])), (25000, R78 r83.1.buffer), (25001, R78 r83.1.disk), (25002, R80 r83.1.log), (25005, R3 r83.1.active), (25006, R3 r83.1.writer), (45000, R3 r84.1.Buffer), (45001, R3 r84.1.Disk), (45002, R3 r84.1.DiskLSN), (45003, R84 r84.1.Log), (45006, R3 r84.1.Active)]) Sub.tt ?_
         refine Chain.nil ?_
         replace h := bsome h; obtain ⟨v86, hj, h⟩ := h
         refine AW.cutR (mk 266 [1000, 2000] [(6, .b v86)] [(1000, some (.box [.ref 25000 0 r83.1.buffer.length, .ref 25001 0 r83.1.disk.length, .ref 25002 0 r83.1.log.length, .i r83.1.flushed, .i r83.1.lastID, .ref 25005 0 r83.1.active.length, .ref 25006 0 r83.1.writer.length])), (2000, some (.box [.ref 45000 0 r84.1.Buffer.length, .ref 45001 0 r84.1.Disk.length, .ref 45002 0 r84.1.DiskLSN.length, .ref 45003 0 r84.1.Log.length, .i r84.1.Flushed, .i r84.1.LastID, .ref 45006 0 r84.1.Active.length])), (25000, R78 r83.1.buffer), (25001, R78 r83.1.disk), (25002, R80 r83.1.log), (25005, R3 r83.1.active), (25006, R3 r83.1.writer), (45000, R3 r84.1.Buffer), (45001, R3 r84.1.Disk), (45002, R3 r84.1.DiskLSN), (45003, R84 r84.1.Log), (45006, R3 r84.1.Active)]) ?_ ?_
         ·clear h; have h := hj; clear hj
          refine Chain.runK [] 4 fun K hK => ?_; simp; refine hK _ _ ?_; clear hK K
          refine Chain.sub (S' := mk 266 [1000, 2000] [(17, .i r83.2.2), (19, .i r84.2.2), (258, .b (r83.2.1 == r84.2.1))] [(1000, some (.box [.ref 25000 0 r83.1.buffer.length, .ref 25001 0 r83.1.disk.length, .ref 25002 0 r83.1.log.length, .i r83.1.flushed, .i r83.1.lastID, .ref 25005 0 r83.1.active.length, .ref 25006 0 r83.1.writer.length])), (2000, some (.box [.ref 45000 0 r84.1.Buffer.length, .ref 45001 0 r84.1.Disk.length, .ref 45002 0 r84.1.DiskLSN.length, .ref 45003 0 r84.1.Log.length, .i r84.1.Flushed, .i r84.1.LastID, .ref 45006 0 r84.1.Active.length])), (25000, R78 r83.1.buffer), (25001, R78 r83.1.disk), (25002, R80 r83.1.log), (25005, R3 r83.1.active), (25006, R3 r83.1.writer), (45000, R3 r84.1.Buffer), (45001, R3 r84.1.Disk), (45002, R3 r84.1.DiskLSN), (45003, R84 r84.1.Log), (45006, R3 r84.1.Active)]) Sub.tt ?_
          replace h := isome h; rcases h with ⟨c87, h⟩ | ⟨c87, h⟩
          ·have c87_ : (r83.2.1 == r84.2.1) = true := c87
           refine Chain.sub (Sub.bool 258 (b := (r83.2.1 == r84.2.1)) rfl c87_) ?_
           refine Chain.sub (S' := mk 266 [1000, 2000] [(17, .i r83.2.2), (19, .i r84.2.2), (258, .b true)] [(1000, some (.box [.ref 25000 0 r83.1.buffer.length, .ref 25001 0 r83.1.disk.length, .ref 25002 0 r83.1.log.length, .i r83.1.flushed, .i r83.1.lastID, .ref 25005 0 r83.1.active.length, .ref 25006 0 r83.1.writer.length])), (2000, some (.box [.ref 45000 0 r84.1.Buffer.length, .ref 45001 0 r84.1.Disk.length, .ref 45002 0 r84.1.DiskLSN.length, .ref 45003 0 r84.1.Log.length, .i r84.1.Flushed, .i r84.1.LastID, .ref 45006 0 r84.1.Active.length])), (25000, R78 r83.1.buffer), (25001, R78 r83.1.disk), (25002, R80 r83.1.log), (25005, R3 r83.1.active), (25006, R3 r83.1.writer), (45000, R3 r84.1.Buffer), (45001, R3 r84.1.Disk), (45002, R3 r84.1.DiskLSN), (45003, R84 r84.1.Log), (45006, R3 r84.1.Active)]) (by simp; exact Sub.table (by simp) (by simp)) ?_
           refine Chain.runK [] 5 fun K hK => ?_; simp; refine hK _ _ ?_; clear hK K
           refine Chain.sub (S' := mk 266 [1000, 2000] [(6, .b (r83.2.2 == r84.2.2))] [(1000, some (.box [.ref 25000 0 r83.1.buffer.length, .ref 25001 0 r83.1.disk.length, .ref 25002 0 r83.1.log.length, .i r83.1.flushed, .i r83.1.lastID, .ref 25005 0 r83.1.active.length, .ref 25006 0 r83.1.writer.length])), (2000, some (.box [.ref 45000 0 r84.1.Buffer.length, .ref 45001 0 r84.1.Disk.length, .ref 45002 0 r84.1.DiskLSN.length, .ref 45003 0 r84.1.Log.length, .i r84.1.Flushed, .i r84.1.LastID, .ref 45006 0 r84.1.Active.length])), (25000, R78 r83.1.buffer), (25001, R78 r83.1.disk), (25002, R80 r83.1.log), (25005, R3 r83.1.active), (25006, R3 r83.1.writer), (45000, R3 r84.1.Buffer), (45001, R3 r84.1.Disk), (45002, R3 r84.1.DiskLSN), (45003, R84 r84.1.Log), (45006, R3 r84.1.Active)]) Sub.tt ?_
           cases h
           exact Chain.nil Sub.tt
          ·have c87_ : (r83.2.1 == r84.2.1) = false := Bool.eq_false_iff.2 c87
           refine Chain.sub (Sub.bool 258 (b := (r83.2.1 == r84.2.1)) rfl c87_) ?_
           refine Chain.sub (S' := mk 266 [1000, 2000] [(17, .i r83.2.2), (19, .i r84.2.2), (258, .b false)] [(1000, some (.box [.ref 25000 0 r83.1.buffer.length, .ref 25001 0 r83.1.disk.length, .ref 25002 0 r83.1.log.length, .i r83.1.flushed, .i r83.1.lastID, .ref 25005 0 r83.1.active.length, .ref 25006 0 r83.1.writer.length])), (2000, some (.box [.ref 45000 0 r84.1.Buffer.length, .ref 45001 0 r84.1.Disk.length, .ref 45002 0 r84.1.DiskLSN.length, .ref 45003 0 r84.1.Log.length, .i r84.1.Flushed, .i r84.1.LastID, .ref 45006 0 r84.1.Active.length])), (25000, R78 r83.1.buffer), (25001, R78 r83.1.disk), (25002, R80 r83.1.log), (25005, R3 r83.1.active), (25006, R3 r83.1.writer), (45000, R3 r84.1.Buffer), (45001, R3 r84.1.Disk), (45002, R3 r84.1.DiskLSN), (45003, R84 r84.1.Log), (45006, R3 r84.1.Active)]) (by simp; exact Sub.table (by simp) (by simp)) ?_
           refine Chain.runK [] 5 fun K hK => ?_; simp; refine hK _ _ ?_; clear hK K
           refine Chain.sub (S' := mk 266 [1000, 2000] [(6, .b false)] [(1000, some (.box [.ref 25000 0 r83.1.buffer.length, .ref 25001 0 r83.1.disk.length, .ref 25002 0 r83.1.log.length, .i r83.1.flushed, .i r83.1.lastID, .ref 25005 0 r83.1.active.length, .ref 25006 0 r83.1.writer.length])), (2000, some (.box [.ref 45000 0 r84.1.Buffer.length, .ref 45001 0 r84.1.Disk.length, .ref 45002 0 r84.1.DiskLSN.length, .ref 45003 0 r84.1.Log.length, .i r84.1.Flushed, .i r84.1.LastID, .ref 45006 0 r84.1.Active.length])), (25000, R78 r83.1.buffer), (25001, R78 r83.1.disk), (25002, R80 r83.1.log), (25005, R3 r83.1.active), (25006, R3 r83.1.writer), (45000, R3 r84.1.Buffer), (45001, R3 r84.1.Disk), (45002, R3 r84.1.DiskLSN), (45003, R84 r84.1.Log), (45006, R3 r84.1.Active)]) Sub.tt ?_
           cases h
           exact Chain.nil Sub.tt
         ·clear hj
          refine AW.ret ?_
          cases h
          refine blockQ.ret ?_
          refine thenQ_pass (by simp) ?_
          exact FinF.ret (by simp) (by simp)
        ·have c82_ : (r12 == 7) = false := Bool.eq_false_iff.2 c82
         refine AW.condF (b := (r12 == 7)) rfl c82_ ?_
         refine AW.sub (Sub.bool 243 (b := (r12 == 7)) rfl c82_) ?_
         refine AW.sub (S' := mk 266 [1000, 2000] [(0, .ptr 1000 0 0), (1, .ptr 2000 0 0), (12, .i 0), (13, .i 0), (243, .b false)] [(1000, some (.box [.ref 25000 0 a0.buffer.length, .ref 25001 0 a0.disk.length, .ref 25002 0 a0.log.length, .i a0.flushed, .i a0.lastID, .ref 25005 0 a0.active.length, .ref 25006 0 a0.writer.length])), (2000, some (.box [.ref 45000 0 a1.Buffer.length, .ref 45001 0 a1.Disk.length, .ref 45002 0 a1.DiskLSN.length, .ref 45003 0 a1.Log.length, .i a1.Flushed, .i a1.LastID, .ref 45006 0 a1.Active.length])), (25000, R78 a0.buffer), (25001, R78 a0.disk), (25002, R80 a0.log), (25005, R3 a0.active), (25006, R3 a0.writer), (45000, R3 a1.Buffer), (45001, R3 a1.Disk), (45002, R3 a1.DiskLSN), (45003, R84 a1.Log), (45006, R3 a1.Active)]) (by simp; exact Sub.table (by simp) (by simp)) ?_
         refine AW.skip ?_
         refine blockQ.normal ?_
         refine thenQ_normal ?_
         refine AW.seqR ?_
         refine Chain.runK [] 4 fun K hK => ?_; simp; refine hK _ _ ?_; clear hK K
         refine Chain.sub (S' := mk 266 [1000, 2000] [(6, .b (0 == 0))] [(1000, some (.box [.ref 25000 0 a0.buffer.length, .ref 25001 0 a0.disk.length, .ref 25002 0 a0.log.length, .i a0.flushed, .i a0.lastID, .ref 25005 0 a0.active.length, .ref 25006 0 a0.writer.length])), (2000, some (.box [.ref 45000 0 a1.Buffer.length, .ref 45001 0 a1.Disk.length, .ref 45002 0 a1.DiskLSN.length, .ref 45003 0 a1.Log.length, .i a1.Flushed, .i a1.LastID, .ref 45006 0 a1.Active.length])), (25000, R78 a0.buffer), (25001, R78 a0.disk), (25002, R80 a0.log), (25005, R3 a0.active), (25006, R3 a0.writer), (45000, R3 a1.Buffer), (45001, R3 a1.Disk), (45002, R3 a1.DiskLSN), (45003, R84 a1.Log), (45006, R3 a1.Active)]) Sub.tt ?_
         refine Chain.nil ?_
         refine AW.ret ?_
         cases h
         exact FinF.ret (by simp) (by simp)

end Go.Proofs.Ytiikoldaocnilaa
