/- Functions of the program as functional programs; the code computes them. -/
import Derived.Test.YtiikoldaocnilaaRc5
namespace Go.Proofs.Ytiikoldaocnilaa
open Go.Ab Go.Rp
attribute [-simp] List.all_eq_true Array.all_toList Array.all_eq_true

/-- (*stemma/stemref5.Engine).Rollback -/
def d30 (N : Nat) (a0 : S56) (a1 : Int) : Option (S56 × Int) :=
 Option.bind (α := List S84) (
  iterN (σ := ((List S84) × Int)) (ρ := List S84) (fun ((l26, v27) : ((List S84) × Int)) =>
   if v27 < (a0.Log.length : Int) then (
    Option.bind (α := List S84) (
     (idx a0.Log v27).bind fun x99 =>
     if (x99.Tx != a1) then (
      some l26
     ) else
     Option.bind (α := List S84) (
      if (x99.Kind == 1) then (
       (appL 40 l26 [x99]).bind fun _l106 =>
       some (l26 ++ [x99])
      ) else
      some l26
     ) fun (l104 : List S84) =>
     if (x99.Kind == 2) then (
      (chkI ((l104.length : Int) - 1)).bind fun v108 =>
      (natI v108 l104.length).bind fun n109 =>
      letv (l104.take n109) fun l110 =>
      some l110
     ) else
     some l104
    ) fun (l98 : List S84) =>
    (chkI (v27 + 1)).bind fun v111 =>
    some (.inl (l98, v111))
   ) else
   some (.inr l26)
  ) N (([] : List S84), 0)
 ) fun (l84 : List S84) =>
 (chkI ((l84.length : Int) - 1)).bind fun v112 =>
 Option.bind (α := ((List Int) × (List Int) × (List Int) × (List S84) × Int × Int × (List Int))) (
  iterN (σ := ((List Int) × (List Int) × (List Int) × (List S84) × Int × Int × (List Int) × Int)) (ρ := ((List Int) × (List Int) × (List Int) × (List S84) × Int × Int × (List Int))) (fun ((l118, l119, l120, l121, v122, v123, l124, v125) : ((List Int) × (List Int) × (List Int) × (List S84) × Int × Int × (List Int) × Int)) =>
   if v125 ≥ 0 then (
    (idx l84 v125).bind fun x152 =>
    (d27 N (S56.mk l118 l119 l120 l121 v122 v123 l124) (S84.mk 2 a1 x152.Page x152.After x152.Before)).bind fun r154 =>
    (chkI (v125 - 1)).bind fun v155 =>
    some (.inl (r154.Buffer, r154.Disk, r154.DiskLSN, r154.Log, r154.Flushed, r154.LastID, r154.Active, v155))
   ) else
   some (.inr (l118, l119, l120, l121, v122, v123, l124))
  ) N (a0.Buffer, a0.Disk, a0.DiskLSN, a0.Log, a0.Flushed, a0.LastID, a0.Active, v112)
 ) fun ((l144, l145, l146, l147, v148, v149, l150) : ((List Int) × (List Int) × (List Int) × (List S84) × Int × Int × (List Int))) =>
 (d27 N (S56.mk l144 l145 l146 l147 v148 v149 l150) (S84.mk 3 a1 0 0 0)).bind fun r156 =>
 (d31 N r156.Active (fun b0 => d42 N b0 a1)).bind fun r157 =>
 some ((S56.mk r156.Buffer r156.Disk r156.DiskLSN r156.Log r156.Flushed r156.LastID r157), (l84.length : Int))
set_option maxRecDepth 100000 in
set_option maxHeartbeats 4000000 in
theorem p30 (N : Nat) (a0 : S56) (a1 : Int) (r : (S56 × Int)) (h : d30 N a0 a1 = some r) : FunM Try.prog 30 [.ptr 1000 0 0, .i a1] [(1000, some (.box [.ref 25000 0 a0.Buffer.length, .ref 25001 0 a0.Disk.length, .ref 25002 0 a0.DiskLSN.length, .ref 25003 0 a0.Log.length, .i a0.Flushed, .i a0.LastID, .ref 25006 0 a0.Active.length])), (25000, R3 a0.Buffer), (25001, R3 a0.Disk), (25002, R3 a0.DiskLSN), (25003, R84 a0.Log), (25006, R3 a0.Active)] [1000] (.i r.2) ([(1000, (.box [.ref 25000 0 r.1.Buffer.length, .ref 25001 0 r.1.Disk.length, .ref 25002 0 r.1.DiskLSN.length, .ref 25003 0 r.1.Log.length, .i r.1.Flushed, .i r.1.LastID, .ref 25006 0 r.1.Active.length])), (25000, (.arr 3 1 (r.1.Buffer.map (cI .i64)))), (25001, (.arr 3 1 (r.1.Disk.map (cI .i64)))), (25002, (.arr 3 1 (r.1.DiskLSN.map (cI .i64)))), (25003, (.arr 84 5 (r.1.Log.map cS84))), (25006, (.arr 3 1 (r.1.Active.map (cI .i64))))]) := by
 unfold d30 at h
 refine FunM.enter 79 [(0, .ptr 1000 0 0), (1, .i a1)] Try.func30 rfl (of_decide_eq_true rfl) rfl rfl ?_
 refine AW.seqR ?_
 refine Chain.runK [] 2 fun K hK => ?_; simp; refine hK _ _ ?_; clear hK K
 refine Chain.sub (S' := mk 79 [1000] [(0, .ptr 1000 0 0), (3, .ptr 3 0 0)] [(3, some (.box [.i a1])), (1000, some (.box [.ref 25000 0 a0.Buffer.length, .ref 25001 0 a0.Disk.length, .ref 25002 0 a0.DiskLSN.length, .ref 25003 0 a0.Log.length, .i a0.Flushed, .i a0.LastID, .ref 25006 0 a0.Active.length])), (25000, R3 a0.Buffer), (25001, R3 a0.Disk), (25002, R3 a0.DiskLSN), (25003, R84 a0.Log), (25006, R3 a0.Active)]) Sub.tt ?_
 refine Chain.nil ?_
 refine AW.seqR ?_
 refine Chain.runK [] 1 fun K hK => ?_; simp; refine hK _ _ ?_; clear hK K
 refine Chain.sub (S' := mk 79 [1000] [(0, .ptr 1000 0 0), (3, .ptr 3 0 0), (5, .d (.lit (.slice none 0 0)))] [(3, some (.box [.i a1])), (1000, some (.box [.ref 25000 0 a0.Buffer.length, .ref 25001 0 a0.Disk.length, .ref 25002 0 a0.DiskLSN.length, .ref 25003 0 a0.Log.length, .i a0.Flushed, .i a0.LastID, .ref 25006 0 a0.Active.length])), (25000, R3 a0.Buffer), (25001, R3 a0.Disk), (25002, R3 a0.DiskLSN), (25003, R84 a0.Log), (25006, R3 a0.Active)]) Sub.tt ?_
 refine Chain.nil ?_
 refine AW.seq ?_
 refine AW.seqR ?_
 refine Chain.runK [] 6 fun K hK => ?_; simp; refine hK _ _ ?_; clear hK K
 refine Chain.sub (S' := mk 79 [1000] [(0, .ptr 1000 0 0), (3, .ptr 3 0 0), (5, .d (.lit (.slice none 0 0))), (12, .ref 25003 0 a0.Log.length), (13, .i (a0.Log.length : Int)), (14, .i 0)] [(3, some (.box [.i a1])), (1000, some (.box [.ref 25000 0 a0.Buffer.length, .ref 25001 0 a0.Disk.length, .ref 25002 0 a0.DiskLSN.length, .ref 25003 0 a0.Log.length, .i a0.Flushed, .i a0.LastID, .ref 25006 0 a0.Active.length])), (25000, R3 a0.Buffer), (25001, R3 a0.Disk), (25002, R3 a0.DiskLSN), (25003, R84 a0.Log), (25006, R3 a0.Active)]) Sub.tt ?_
 refine Chain.nil ?_
 refine AW.lastN (fun (l84 : List S84) => mk 79 [1000] [(0, .ptr 1000 0 0), (3, .ptr 3 0 0), (5, .ref 28 0 l84.length)] [(3, some (.box [.i a1])), (28, R84 l84), (1000, some (.box [.ref 25000 0 a0.Buffer.length, .ref 25001 0 a0.Disk.length, .ref 25002 0 a0.DiskLSN.length, .ref 25003 0 a0.Log.length, .i a0.Flushed, .i a0.LastID, .ref 25006 0 a0.Active.length])), (25000, R3 a0.Buffer), (25001, R3 a0.Disk), (25002, R3 a0.DiskLSN), (25003, R84 a0.Log), (25006, R3 a0.Active)]) h ?_ ?_ <;> clear h
 ·intro o h
  refine AW.block ?_
  refine AW.iter (fun ((l26, v27) : ((List S84) × Int)) => mk 79 [1000] [(0, .ptr 1000 0 0), (3, .ptr 3 0 0), (5, .ref 28 0 l26.length), (12, .ref 25003 0 a0.Log.length), (13, .i (a0.Log.length : Int)), (14, .i v27)] [(3, some (.box [.i a1])), (28, R84 l26), (1000, some (.box [.ref 25000 0 a0.Buffer.length, .ref 25001 0 a0.Disk.length, .ref 25002 0 a0.DiskLSN.length, .ref 25003 0 a0.Log.length, .i a0.Flushed, .i a0.LastID, .ref 25006 0 a0.Active.length])), (25000, R3 a0.Buffer), (25001, R3 a0.Disk), (25002, R3 a0.DiskLSN), (25003, R84 a0.Log), (25006, R3 a0.Active)]) h (Sub.trans (Sub.nilOwn (t := 5) (id := 28) (T := 84) (n := 5) rfl rfl (by decide)) (by simp; exact Sub.table (by simp) (by simp))) ?_
  clear h
  rintro ⟨l26, v27⟩ x h
  dsimp only at h ⊢
  refine AW.seqR ?_
  refine Chain.runK [] 1 fun K hK => ?_; simp; refine hK _ _ ?_; clear hK K
  refine Chain.sub (S' := mk 79 [1000] [(0, .ptr 1000 0 0), (3, .ptr 3 0 0), (5, .ref 28 0 l26.length), (12, .ref 25003 0 a0.Log.length), (13, .i (a0.Log.length : Int)), (14, .i v27), (15, .b (decide (v27 < (a0.Log.length : Int))))] [(3, some (.box [.i a1])), (28, R84 l26), (1000, some (.box [.ref 25000 0 a0.Buffer.length, .ref 25001 0 a0.Disk.length, .ref 25002 0 a0.DiskLSN.length, .ref 25003 0 a0.Log.length, .i a0.Flushed, .i a0.LastID, .ref 25006 0 a0.Active.length])), (25000, R3 a0.Buffer), (25001, R3 a0.Disk), (25002, R3 a0.DiskLSN), (25003, R84 a0.Log), (25006, R3 a0.Active)]) Sub.tt ?_
  refine Chain.nil ?_
  refine AW.seq ?_
  replace h := isome h; rcases h with ⟨c85, h⟩ | ⟨c85, h⟩
  ·have c85_ : decide (v27 < (a0.Log.length : Int)) = true := decide_eq_true c85
   refine AW.condT (b := decide (v27 < (a0.Log.length : Int))) rfl c85_ ?_
   refine AW.sub (Sub.bool 15 (b := decide (v27 < (a0.Log.length : Int))) rfl c85_) ?_
   refine AW.sub (S' := mk 79 [1000] [(0, .ptr 1000 0 0), (3, .ptr 3 0 0), (5, .ref 28 0 l26.length), (12, .ref 25003 0 a0.Log.length), (13, .i (a0.Log.length : Int)), (14, .i v27), (15, .b true)] [(3, some (.box [.i a1])), (28, R84 l26), (1000, some (.box [.ref 25000 0 a0.Buffer.length, .ref 25001 0 a0.Disk.length, .ref 25002 0 a0.DiskLSN.length, .ref 25003 0 a0.Log.length, .i a0.Flushed, .i a0.LastID, .ref 25006 0 a0.Active.length])), (25000, R3 a0.Buffer), (25001, R3 a0.Disk), (25002, R3 a0.DiskLSN), (25003, R84 a0.Log), (25006, R3 a0.Active)]) (by simp; exact Sub.table (by simp) (by simp)) ?_
   refine AW.skip ?_
   refine thenQ_normal ?_
   refine AW.seqN (fun (l98 : List S84) => mk 79 [1000] [(0, .ptr 1000 0 0), (3, .ptr 3 0 0), (5, .ref 28 0 l98.length), (12, .ref 25003 0 a0.Log.length), (13, .i (a0.Log.length : Int)), (14, .i v27)] [(3, some (.box [.i a1])), (28, R84 l98), (1000, some (.box [.ref 25000 0 a0.Buffer.length, .ref 25001 0 a0.Disk.length, .ref 25002 0 a0.DiskLSN.length, .ref 25003 0 a0.Log.length, .i a0.Flushed, .i a0.LastID, .ref 25006 0 a0.Active.length])), (25000, R3 a0.Buffer), (25001, R3 a0.Disk), (25002, R3 a0.DiskLSN), (25003, R84 a0.Log), (25006, R3 a0.Active)]) h ?_ ?_ <;> clear h
   ·intro o h
    refine AW.block ?_
    refine AW.seqR ?_
    replace h := bsome h; obtain ⟨x99, hx99, h⟩ := h
    obtain ⟨k100, hx99k, hx99, hx99a, hx99b⟩ := idx_some hx99
    refine Chain.runK [] 4 fun K hK => ?_; simp [hx99, hx99k, hx99a, hx99b]; refine hK _ _ ?_; clear hK K
    refine Chain.sub (S' := mk 79 [1000] [(0, .ptr 1000 0 0), (3, .ptr 3 0 0), (5, .ref 28 0 l26.length), (7, .ptr 7 0 0), (12, .ref 25003 0 a0.Log.length), (13, .i (a0.Log.length : Int)), (14, .i v27)] [(3, some (.box [.i a1])), (7, some (.box [.i x99.Kind, .i x99.Tx, .i x99.Page, .i x99.Before, .i x99.After])), (28, R84 l26), (1000, some (.box [.ref 25000 0 a0.Buffer.length, .ref 25001 0 a0.Disk.length, .ref 25002 0 a0.DiskLSN.length, .ref 25003 0 a0.Log.length, .i a0.Flushed, .i a0.LastID, .ref 25006 0 a0.Active.length])), (25000, R3 a0.Buffer), (25001, R3 a0.Disk), (25002, R3 a0.DiskLSN), (25003, R84 a0.Log), (25006, R3 a0.Active)]) Sub.tt ?_
    refine Chain.nil ?_
    refine AW.seq ?_
    refine AW.seqR ?_
    refine Chain.runK [] 4 fun K hK => ?_; simp; refine hK _ _ ?_; clear hK K
    refine Chain.sub (S' := mk 79 [1000] [(0, .ptr 1000 0 0), (3, .ptr 3 0 0), (5, .ref 28 0 l26.length), (7, .ptr 7 0 0), (12, .ref 25003 0 a0.Log.length), (13, .i (a0.Log.length : Int)), (14, .i v27), (21, .b (x99.Tx != a1))] [(3, some (.box [.i a1])), (7, some (.box [.i x99.Kind, .i x99.Tx, .i x99.Page, .i x99.Before, .i x99.After])), (28, R84 l26), (1000, some (.box [.ref 25000 0 a0.Buffer.length, .ref 25001 0 a0.Disk.length, .ref 25002 0 a0.DiskLSN.length, .ref 25003 0 a0.Log.length, .i a0.Flushed, .i a0.LastID, .ref 25006 0 a0.Active.length])), (25000, R3 a0.Buffer), (25001, R3 a0.Disk), (25002, R3 a0.DiskLSN), (25003, R84 a0.Log), (25006, R3 a0.Active)]) Sub.tt ?_
    refine Chain.nil ?_
    replace h := isome h; rcases h with ⟨c101, h⟩ | ⟨c101, h⟩
    ·have c101_ : (x99.Tx != a1) = true := c101
     refine AW.condT (b := (x99.Tx != a1)) rfl c101_ ?_
     refine AW.sub (Sub.bool 21 (b := (x99.Tx != a1)) rfl c101_) ?_
     refine AW.sub (S' := mk 79 [1000] [(0, .ptr 1000 0 0), (3, .ptr 3 0 0), (5, .ref 28 0 l26.length), (7, .ptr 7 0 0), (12, .ref 25003 0 a0.Log.length), (13, .i (a0.Log.length : Int)), (14, .i v27), (21, .b true)] [(3, some (.box [.i a1])), (7, some (.box [.i x99.Kind, .i x99.Tx, .i x99.Page, .i x99.Before, .i x99.After])), (28, R84 l26), (1000, some (.box [.ref 25000 0 a0.Buffer.length, .ref 25001 0 a0.Disk.length, .ref 25002 0 a0.DiskLSN.length, .ref 25003 0 a0.Log.length, .i a0.Flushed, .i a0.LastID, .ref 25006 0 a0.Active.length])), (25000, R3 a0.Buffer), (25001, R3 a0.Disk), (25002, R3 a0.DiskLSN), (25003, R84 a0.Log), (25006, R3 a0.Active)]) (by simp; exact Sub.table (by simp) (by simp)) ?_
     refine AW.exit ?_
     cases h
     refine thenQ_pass (by simp) ?_
     refine blockQ.hit ?_
     refine PostN.next ?_
     exact Sub.tt
    ·have c101_ : (x99.Tx != a1) = false := Bool.eq_false_iff.2 c101
     refine AW.condF (b := (x99.Tx != a1)) rfl c101_ ?_
     refine AW.sub (Sub.bool 21 (b := (x99.Tx != a1)) rfl c101_) ?_
     refine AW.sub (S' := mk 79 [1000] [(0, .ptr 1000 0 0), (3, .ptr 3 0 0), (5, .ref 28 0 l26.length), (7, .ptr 7 0 0), (12, .ref 25003 0 a0.Log.length), (13, .i (a0.Log.length : Int)), (14, .i v27), (21, .b false)] [(3, some (.box [.i a1])), (7, some (.box [.i x99.Kind, .i x99.Tx, .i x99.Page, .i x99.Before, .i x99.After])), (28, R84 l26), (1000, some (.box [.ref 25000 0 a0.Buffer.length, .ref 25001 0 a0.Disk.length, .ref 25002 0 a0.DiskLSN.length, .ref 25003 0 a0.Log.length, .i a0.Flushed, .i a0.LastID, .ref 25006 0 a0.Active.length])), (25000, R3 a0.Buffer), (25001, R3 a0.Disk), (25002, R3 a0.DiskLSN), (25003, R84 a0.Log), (25006, R3 a0.Active)]) (by simp; exact Sub.table (by simp) (by simp)) ?_
     refine AW.skip ?_
     refine thenQ_normal ?_
     refine AW.seq ?_
     refine AW.seqR ?_
     refine Chain.runK [] 3 fun K hK => ?_; simp; refine hK _ _ ?_; clear hK K
     refine Chain.sub (S' := mk 79 [1000] [(0, .ptr 1000 0 0), (3, .ptr 3 0 0), (5, .ref 28 0 l26.length), (7, .ptr 7 0 0), (12, .ref 25003 0 a0.Log.length), (13, .i (a0.Log.length : Int)), (14, .i v27), (24, .b (x99.Kind == 1))] [(3, some (.box [.i a1])), (7, some (.box [.i x99.Kind, .i x99.Tx, .i x99.Page, .i x99.Before, .i x99.After])), (28, R84 l26), (1000, some (.box [.ref 25000 0 a0.Buffer.length, .ref 25001 0 a0.Disk.length, .ref 25002 0 a0.DiskLSN.length, .ref 25003 0 a0.Log.length, .i a0.Flushed, .i a0.LastID, .ref 25006 0 a0.Active.length])), (25000, R3 a0.Buffer), (25001, R3 a0.Disk), (25002, R3 a0.DiskLSN), (25003, R84 a0.Log), (25006, R3 a0.Active)]) Sub.tt ?_
     refine Chain.nil ?_
     refine AW.lastN (fun (l104 : List S84) => mk 79 [1000] [(0, .ptr 1000 0 0), (3, .ptr 3 0 0), (5, .ref 28 0 l104.length), (7, .ptr 7 0 0), (12, .ref 25003 0 a0.Log.length), (13, .i (a0.Log.length : Int)), (14, .i v27)] [(3, some (.box [.i a1])), (7, some (.box [.i x99.Kind, .i x99.Tx, .i x99.Page, .i x99.Before, .i x99.After])), (28, R84 l104), (1000, some (.box [.ref 25000 0 a0.Buffer.length, .ref 25001 0 a0.Disk.length, .ref 25002 0 a0.DiskLSN.length, .ref 25003 0 a0.Log.length, .i a0.Flushed, .i a0.LastID, .ref 25006 0 a0.Active.length])), (25000, R3 a0.Buffer), (25001, R3 a0.Disk), (25002, R3 a0.DiskLSN), (25003, R84 a0.Log), (25006, R3 a0.Active)]) h ?_ ?_ <;> clear h
     ·intro o h
      replace h := isome h; rcases h with ⟨c105, h⟩ | ⟨c105, h⟩
      ·have c105_ : (x99.Kind == 1) = true := c105
       refine AW.condT (b := (x99.Kind == 1)) rfl c105_ ?_
       refine AW.sub (Sub.bool 24 (b := (x99.Kind == 1)) rfl c105_) ?_
       refine AW.sub (S' := mk 79 [1000] [(0, .ptr 1000 0 0), (3, .ptr 3 0 0), (5, .ref 28 0 l26.length), (7, .ptr 7 0 0), (12, .ref 25003 0 a0.Log.length), (13, .i (a0.Log.length : Int)), (14, .i v27), (24, .b true)] [(3, some (.box [.i a1])), (7, some (.box [.i x99.Kind, .i x99.Tx, .i x99.Page, .i x99.Before, .i x99.After])), (28, R84 l26), (1000, some (.box [.ref 25000 0 a0.Buffer.length, .ref 25001 0 a0.Disk.length, .ref 25002 0 a0.DiskLSN.length, .ref 25003 0 a0.Log.length, .i a0.Flushed, .i a0.LastID, .ref 25006 0 a0.Active.length])), (25000, R3 a0.Buffer), (25001, R3 a0.Disk), (25002, R3 a0.DiskLSN), (25003, R84 a0.Log), (25006, R3 a0.Active)]) (by simp; exact Sub.table (by simp) (by simp)) ?_
       refine AW.region ?_
       replace h := bsome h; obtain ⟨l106, hl106, h⟩ := h
       obtain ⟨hl106a, hl106⟩ := appL_some hl106
       subst hl106
       try simp only [List.length_cons, List.length_nil, Nat.zero_add] at hl106a
       refine Chain.runK [27] 5 fun K hK => ?_; simp [hl106a]; refine hK _ _ ?_; clear hK K
       refine Chain.sub (S' := mk 79 [1000] [(0, .ptr 1000 0 0), (3, .ptr 3 0 0), (5, .ref 28 0 ((l26 ++ [x99]).length)), (7, .ptr 7 0 0), (12, .ref 25003 0 a0.Log.length), (13, .i (a0.Log.length : Int)), (14, .i v27)] [(3, some (.box [.i a1])), (7, some (.box [.i x99.Kind, .i x99.Tx, .i x99.Page, .i x99.Before, .i x99.After])), (28, R84 (l26 ++ [x99])), (1000, some (.box [.ref 25000 0 a0.Buffer.length, .ref 25001 0 a0.Disk.length, .ref 25002 0 a0.DiskLSN.length, .ref 25003 0 a0.Log.length, .i a0.Flushed, .i a0.LastID, .ref 25006 0 a0.Active.length])), (25000, R3 a0.Buffer), (25001, R3 a0.Disk), (25002, R3 a0.DiskLSN), (25003, R84 a0.Log), (25006, R3 a0.Active)]) Sub.tt ?_
       refine Chain.nil ?_
       cases h
       refine PostN.next ?_
       exact Sub.tt
      ·have c105_ : (x99.Kind == 1) = false := Bool.eq_false_iff.2 c105
       refine AW.condF (b := (x99.Kind == 1)) rfl c105_ ?_
       refine AW.sub (Sub.bool 24 (b := (x99.Kind == 1)) rfl c105_) ?_
       refine AW.sub (S' := mk 79 [1000] [(0, .ptr 1000 0 0), (3, .ptr 3 0 0), (5, .ref 28 0 l26.length), (7, .ptr 7 0 0), (12, .ref 25003 0 a0.Log.length), (13, .i (a0.Log.length : Int)), (14, .i v27), (24, .b false)] [(3, some (.box [.i a1])), (7, some (.box [.i x99.Kind, .i x99.Tx, .i x99.Page, .i x99.Before, .i x99.After])), (28, R84 l26), (1000, some (.box [.ref 25000 0 a0.Buffer.length, .ref 25001 0 a0.Disk.length, .ref 25002 0 a0.DiskLSN.length, .ref 25003 0 a0.Log.length, .i a0.Flushed, .i a0.LastID, .ref 25006 0 a0.Active.length])), (25000, R3 a0.Buffer), (25001, R3 a0.Disk), (25002, R3 a0.DiskLSN), (25003, R84 a0.Log), (25006, R3 a0.Active)]) (by simp; exact Sub.table (by simp) (by simp)) ?_
       refine AW.skip ?_
       cases h
       refine PostN.next ?_
       exact Sub.tt
     ·rintro l104 h
      refine thenQ_normal ?_
      refine AW.seqR ?_
      refine Chain.runK [] 3 fun K hK => ?_; simp; refine hK _ _ ?_; clear hK K
      refine Chain.sub (S' := mk 79 [1000] [(0, .ptr 1000 0 0), (3, .ptr 3 0 0), (5, .ref 28 0 l104.length), (12, .ref 25003 0 a0.Log.length), (13, .i (a0.Log.length : Int)), (14, .i v27), (31, .b (x99.Kind == 2))] [(3, some (.box [.i a1])), (28, R84 l104), (1000, some (.box [.ref 25000 0 a0.Buffer.length, .ref 25001 0 a0.Disk.length, .ref 25002 0 a0.DiskLSN.length, .ref 25003 0 a0.Log.length, .i a0.Flushed, .i a0.LastID, .ref 25006 0 a0.Active.length])), (25000, R3 a0.Buffer), (25001, R3 a0.Disk), (25002, R3 a0.DiskLSN), (25003, R84 a0.Log), (25006, R3 a0.Active)]) Sub.tt ?_
      refine Chain.nil ?_
      replace h := isome h; rcases h with ⟨c107, h⟩ | ⟨c107, h⟩
      ·have c107_ : (x99.Kind == 2) = true := c107
       refine AW.condT (b := (x99.Kind == 2)) rfl c107_ ?_
       refine AW.sub (Sub.bool 31 (b := (x99.Kind == 2)) rfl c107_) ?_
       refine AW.sub (S' := mk 79 [1000] [(0, .ptr 1000 0 0), (3, .ptr 3 0 0), (5, .ref 28 0 l104.length), (12, .ref 25003 0 a0.Log.length), (13, .i (a0.Log.length : Int)), (14, .i v27), (31, .b true)] [(3, some (.box [.i a1])), (28, R84 l104), (1000, some (.box [.ref 25000 0 a0.Buffer.length, .ref 25001 0 a0.Disk.length, .ref 25002 0 a0.DiskLSN.length, .ref 25003 0 a0.Log.length, .i a0.Flushed, .i a0.LastID, .ref 25006 0 a0.Active.length])), (25000, R3 a0.Buffer), (25001, R3 a0.Disk), (25002, R3 a0.DiskLSN), (25003, R84 a0.Log), (25006, R3 a0.Active)]) (by simp; exact Sub.table (by simp) (by simp)) ?_
       refine AW.region ?_
       replace h := bsome h; obtain ⟨v108, hv108, h⟩ := h
       have hv108 := chkI_some hv108
       replace h := bsome h; obtain ⟨n109, gn109, h⟩ := h
       obtain ⟨hn109a, hn109⟩ := natI_some gn109
       clear gn109
       subst hn109a
       refine Chain.runK [] 5 fun K hK => ?_; simp [hv108, hn109]; refine hK _ _ ?_; clear hK K
       refine Chain.sub (S' := mk 79 [1000] [(0, .ptr 1000 0 0), (3, .ptr 3 0 0), (12, .ref 25003 0 a0.Log.length), (13, .i (a0.Log.length : Int)), (14, .i v27), (36, .ref 28 0 n109)] [(3, some (.box [.i a1])), (28, R84 l104), (1000, some (.box [.ref 25000 0 a0.Buffer.length, .ref 25001 0 a0.Disk.length, .ref 25002 0 a0.DiskLSN.length, .ref 25003 0 a0.Log.length, .i a0.Flushed, .i a0.LastID, .ref 25006 0 a0.Active.length])), (25000, R3 a0.Buffer), (25001, R3 a0.Disk), (25002, R3 a0.DiskLSN), (25003, R84 a0.Log), (25006, R3 a0.Active)]) Sub.tt ?_
       replace h := lsome h; obtain ⟨l110, gl110, h⟩ := h
       have hl110k : n109 = l110.length := by rw [← gl110, List.length_take]; omega
       subst hl110k
       have hl110 : (l104.map cS84).take l110.length = l110.map cS84 := by rw [← List.map_take, gl110]
       clear gl110
       refine Chain.sub (Sub.cut 28 l110.length rfl) ?_
       refine Chain.sub (S' := mk 79 [1000] [(0, .ptr 1000 0 0), (3, .ptr 3 0 0), (12, .ref 25003 0 a0.Log.length), (13, .i (a0.Log.length : Int)), (14, .i v27), (36, .ref 28 0 l110.length)] [(3, some (.box [.i a1])), (28, R84 l110), (1000, some (.box [.ref 25000 0 a0.Buffer.length, .ref 25001 0 a0.Disk.length, .ref 25002 0 a0.DiskLSN.length, .ref 25003 0 a0.Log.length, .i a0.Flushed, .i a0.LastID, .ref 25006 0 a0.Active.length])), (25000, R3 a0.Buffer), (25001, R3 a0.Disk), (25002, R3 a0.DiskLSN), (25003, R84 a0.Log), (25006, R3 a0.Active)]) (by simp [hl110]; exact Sub.table (by simp) (by simp)) ?_
       refine Chain.runK [] 1 fun K hK => ?_; simp; refine hK _ _ ?_; clear hK K
       refine Chain.sub (S' := mk 79 [1000] [(0, .ptr 1000 0 0), (3, .ptr 3 0 0), (5, .ref 28 0 l110.length), (12, .ref 25003 0 a0.Log.length), (13, .i (a0.Log.length : Int)), (14, .i v27)] [(3, some (.box [.i a1])), (28, R84 l110), (1000, some (.box [.ref 25000 0 a0.Buffer.length, .ref 25001 0 a0.Disk.length, .ref 25002 0 a0.DiskLSN.length, .ref 25003 0 a0.Log.length, .i a0.Flushed, .i a0.LastID, .ref 25006 0 a0.Active.length])), (25000, R3 a0.Buffer), (25001, R3 a0.Disk), (25002, R3 a0.DiskLSN), (25003, R84 a0.Log), (25006, R3 a0.Active)]) Sub.tt ?_
       refine Chain.nil ?_
       cases h
       refine blockQ.normal ?_
       refine PostN.next ?_
       exact Sub.tt
      ·have c107_ : (x99.Kind == 2) = false := Bool.eq_false_iff.2 c107
       refine AW.condF (b := (x99.Kind == 2)) rfl c107_ ?_
       refine AW.sub (Sub.bool 31 (b := (x99.Kind == 2)) rfl c107_) ?_
       refine AW.sub (S' := mk 79 [1000] [(0, .ptr 1000 0 0), (3, .ptr 3 0 0), (5, .ref 28 0 l104.length), (12, .ref 25003 0 a0.Log.length), (13, .i (a0.Log.length : Int)), (14, .i v27), (31, .b false)] [(3, some (.box [.i a1])), (28, R84 l104), (1000, some (.box [.ref 25000 0 a0.Buffer.length, .ref 25001 0 a0.Disk.length, .ref 25002 0 a0.DiskLSN.length, .ref 25003 0 a0.Log.length, .i a0.Flushed, .i a0.LastID, .ref 25006 0 a0.Active.length])), (25000, R3 a0.Buffer), (25001, R3 a0.Disk), (25002, R3 a0.DiskLSN), (25003, R84 a0.Log), (25006, R3 a0.Active)]) (by simp; exact Sub.table (by simp) (by simp)) ?_
       refine AW.skip ?_
       cases h
       refine blockQ.normal ?_
       refine PostN.next ?_
       exact Sub.tt
   ·rintro l98 h
    refine AW.region ?_
    replace h := bsome h; obtain ⟨v111, hv111, h⟩ := h
    have hv111 := chkI_some hv111
    refine Chain.runK [] 2 fun K hK => ?_; simp [hv111]; refine hK _ _ ?_; clear hK K
    refine Chain.sub (S' := mk 79 [1000] [(0, .ptr 1000 0 0), (3, .ptr 3 0 0), (5, .ref 28 0 l98.length), (12, .ref 25003 0 a0.Log.length), (13, .i (a0.Log.length : Int)), (14, .i v111)] [(3, some (.box [.i a1])), (28, R84 l98), (1000, some (.box [.ref 25000 0 a0.Buffer.length, .ref 25001 0 a0.Disk.length, .ref 25002 0 a0.DiskLSN.length, .ref 25003 0 a0.Log.length, .i a0.Flushed, .i a0.LastID, .ref 25006 0 a0.Active.length])), (25000, R3 a0.Buffer), (25001, R3 a0.Disk), (25002, R3 a0.DiskLSN), (25003, R84 a0.Log), (25006, R3 a0.Active)]) Sub.tt ?_
    refine Chain.nil ?_
    cases h
    refine PostI.next ?_
    exact Sub.tt
  ·have c85_ : decide (v27 < (a0.Log.length : Int)) = false := decide_eq_false c85
   refine AW.condF (b := decide (v27 < (a0.Log.length : Int))) rfl c85_ ?_
   refine AW.sub (Sub.bool 15 (b := decide (v27 < (a0.Log.length : Int))) rfl c85_) ?_
   refine AW.sub (S' := mk 79 [1000] [(0, .ptr 1000 0 0), (3, .ptr 3 0 0), (5, .ref 28 0 l26.length), (12, .ref 25003 0 a0.Log.length), (13, .i (a0.Log.length : Int)), (14, .i v27), (15, .b false)] [(3, some (.box [.i a1])), (28, R84 l26), (1000, some (.box [.ref 25000 0 a0.Buffer.length, .ref 25001 0 a0.Disk.length, .ref 25002 0 a0.DiskLSN.length, .ref 25003 0 a0.Log.length, .i a0.Flushed, .i a0.LastID, .ref 25006 0 a0.Active.length])), (25000, R3 a0.Buffer), (25001, R3 a0.Disk), (25002, R3 a0.DiskLSN), (25003, R84 a0.Log), (25006, R3 a0.Active)]) (by simp; exact Sub.table (by simp) (by simp)) ?_
   refine AW.exit ?_
   cases h
   refine thenQ_pass (by simp) ?_
   refine PostI.out (by simp) ?_
   rintro rfl
   refine blockQ.hit ?_
   refine PostN.next ?_
   exact Sub.tt
 ·rintro l84 h
  refine thenQ_normal ?_
  refine AW.seq ?_
  refine AW.seqR ?_
  replace h := bsome h; obtain ⟨v112, hv112, h⟩ := h
  have hv112 := chkI_some hv112
  refine Chain.runK [] 4 fun K hK => ?_; simp [hv112]; refine hK _ _ ?_; clear hK K
  refine Chain.sub (S' := mk 79 [1000] [(0, .ptr 1000 0 0), (3, .ptr 3 0 0), (5, .ref 28 0 l84.length), (8, .i v112)] [(3, some (.box [.i a1])), (28, R84 l84), (1000, some (.box [.ref 25000 0 a0.Buffer.length, .ref 25001 0 a0.Disk.length, .ref 25002 0 a0.DiskLSN.length, .ref 25003 0 a0.Log.length, .i a0.Flushed, .i a0.LastID, .ref 25006 0 a0.Active.length])), (25000, R3 a0.Buffer), (25001, R3 a0.Disk), (25002, R3 a0.DiskLSN), (25003, R84 a0.Log), (25006, R3 a0.Active)]) Sub.tt ?_
  refine Chain.nil ?_
  refine AW.lastN (fun ((l144, l145, l146, l147, v148, v149, l150) : ((List Int) × (List Int) × (List Int) × (List S84) × Int × Int × (List Int))) => mk 79 [1000] [(0, .ptr 1000 0 0), (3, .ptr 3 0 0), (5, .ref 28 0 l84.length)] [(3, some (.box [.i a1])), (28, R84 l84), (1000, some (.box [.ref 25000 0 l144.length, .ref 25001 0 l145.length, .ref 25002 0 l146.length, .ref 25003 0 l147.length, .i v148, .i v149, .ref 25006 0 l150.length])), (25000, R3 l144), (25001, R3 l145), (25002, R3 l146), (25003, R84 l147), (25006, R3 l150)]) h ?_ ?_ <;> clear h
  ·intro o h
   refine AW.block ?_
   refine AW.iter (fun ((l118, l119, l120, l121, v122, v123, l124, v125) : ((List Int) × (List Int) × (List Int) × (List S84) × Int × Int × (List Int) × Int)) => mk 79 [1000] [(0, .ptr 1000 0 0), (3, .ptr 3 0 0), (5, .ref 28 0 l84.length), (8, .i v125)] [(3, some (.box [.i a1])), (28, R84 l84), (1000, some (.box [.ref 25000 0 l118.length, .ref 25001 0 l119.length, .ref 25002 0 l120.length, .ref 25003 0 l121.length, .i v122, .i v123, .ref 25006 0 l124.length])), (25000, R3 l118), (25001, R3 l119), (25002, R3 l120), (25003, R84 l121), (25006, R3 l124)]) h Sub.tt ?_
   clear h
   rintro ⟨l118, l119, l120, l121, v122, v123, l124, v125⟩ x h
   dsimp only at h ⊢
   refine AW.seq ?_
   refine AW.seqR ?_
   refine Chain.runK [] 2 fun K hK => ?_; simp; refine hK _ _ ?_; clear hK K
   refine Chain.sub (S' := mk 79 [1000] [(0, .ptr 1000 0 0), (3, .ptr 3 0 0), (5, .ref 28 0 l84.length), (8, .i v125), (42, .b (decide (v125 ≥ 0)))] [(3, some (.box [.i a1])), (28, R84 l84), (1000, some (.box [.ref 25000 0 l118.length, .ref 25001 0 l119.length, .ref 25002 0 l120.length, .ref 25003 0 l121.length, .i v122, .i v123, .ref 25006 0 l124.length])), (25000, R3 l118), (25001, R3 l119), (25002, R3 l120), (25003, R84 l121), (25006, R3 l124)]) Sub.tt ?_
   refine Chain.nil ?_
   replace h := isome h; rcases h with ⟨c151, h⟩ | ⟨c151, h⟩
   ·have c151_ : decide (v125 ≥ 0) = true := decide_eq_true c151
    refine AW.condT (b := decide (v125 ≥ 0)) rfl c151_ ?_
    refine AW.sub (Sub.bool 42 (b := decide (v125 ≥ 0)) rfl c151_) ?_
    refine AW.sub (S' := mk 79 [1000] [(0, .ptr 1000 0 0), (3, .ptr 3 0 0), (5, .ref 28 0 l84.length), (8, .i v125), (42, .b true)] [(3, some (.box [.i a1])), (28, R84 l84), (1000, some (.box [.ref 25000 0 l118.length, .ref 25001 0 l119.length, .ref 25002 0 l120.length, .ref 25003 0 l121.length, .i v122, .i v123, .ref 25006 0 l124.length])), (25000, R3 l118), (25001, R3 l119), (25002, R3 l120), (25003, R84 l121), (25006, R3 l124)]) (by simp; exact Sub.table (by simp) (by simp)) ?_
    refine AW.skip ?_
    refine thenQ_normal ?_
    refine AW.seq ?_
    refine AW.block ?_
    replace h := bsome h; obtain ⟨x152, hx152, h⟩ := h
    obtain ⟨k153, hx152k, hx152, hx152a, hx152b⟩ := idx_some hx152
    refine AW.regionT 18 (by kernel_rfl) (by kernel_rfl) fun K hK => ?_; simp [hx152, hx152k, hx152a, hx152b]; refine hK _ _ ?_; clear hK K
    refine Chain.sub (S' := mk 79 [1000] [(0, .ptr 1000 0 0), (3, .ptr 3 0 0), (5, .ref 28 0 l84.length), (8, .i v125), (45, .ptr 1000 0 0), (62, .agg [.i 2, .i a1, .i x152.Page, .i x152.After, .i x152.Before])] [(3, some (.box [.i a1])), (28, R84 l84), (1000, some (.box [.ref 25000 0 l118.length, .ref 25001 0 l119.length, .ref 25002 0 l120.length, .ref 25003 0 l121.length, .i v122, .i v123, .ref 25006 0 l124.length])), (25000, R3 l118), (25001, R3 l119), (25002, R3 l120), (25003, R84 l121), (25006, R3 l124)]) Sub.tt ?_
    replace h := bsome h; obtain ⟨r154, hr154, h⟩ := h
    refine Chain.callF (p27 N (S56.mk l118 l119 l120 l121 v122 v123 l124) (S84.mk 2 a1 x152.Page x152.After x152.Before) r154 hr154) [(1000, 1000), (25000, 25000), (25001, 25001), (25002, 25002), (25003, 25003), (25006, 25006)] [1000] [(1000, 1000), (25000, 25000), (25001, 25001), (25002, 25002), (25003, 25003), (25006, 25006)] [(1000, (.box [.ref 25000 0 r154.Buffer.length, .ref 25001 0 r154.Disk.length, .ref 25002 0 r154.DiskLSN.length, .ref 25003 0 r154.Log.length, .i r154.Flushed, .i r154.LastID, .ref 25006 0 r154.Active.length])), (25000, (.arr 3 1 (r154.Buffer.map (cI .i64)))), (25001, (.arr 3 1 (r154.Disk.map (cI .i64)))), (25002, (.arr 3 1 (r154.DiskLSN.map (cI .i64)))), (25003, (.arr 84 5 (r154.Log.map cS84))), (25006, (.arr 3 1 (r154.Active.map (cI .i64))))] (.tup []) (by simp) rfl (by simp <;> rfl) (by simp) (by simp) (by simp) (by simp) (by simp) ent27 (by simp) (by simp) (by simp) (by simp) (by simp) (by simp) ?_
    refine Chain.sub (S' := mk 79 [1000] [(0, .ptr 1000 0 0), (3, .ptr 3 0 0), (5, .ref 28 0 l84.length), (8, .i v125), (45, .ptr 1000 0 0), (62, .agg [.i 2, .i a1, .i x152.Page, .i x152.After, .i x152.Before]), (63, .tup [])] [(3, some (.box [.i a1])), (28, R84 l84), (1000, some (.box [.ref 25000 0 r154.Buffer.length, .ref 25001 0 r154.Disk.length, .ref 25002 0 r154.DiskLSN.length, .ref 25003 0 r154.Log.length, .i r154.Flushed, .i r154.LastID, .ref 25006 0 r154.Active.length])), (25000, R3 r154.Buffer), (25001, R3 r154.Disk), (25002, R3 r154.DiskLSN), (25003, R84 r154.Log), (25006, R3 r154.Active)]) (by simp; exact Sub.table (by simp) (by simp)) ?_
    refine Chain.nil ?_
    refine blockQ.normal ?_
    refine thenQ_normal ?_
    refine AW.region ?_
    replace h := bsome h; obtain ⟨v155, hv155, h⟩ := h
    have hv155 := chkI_some hv155
    refine Chain.runK [] 3 fun K hK => ?_; simp [hv155]; refine hK _ _ ?_; clear hK K
    refine Chain.sub (S' := mk 79 [1000] [(0, .ptr 1000 0 0), (3, .ptr 3 0 0), (5, .ref 28 0 l84.length), (8, .i v155)] [(3, some (.box [.i a1])), (28, R84 l84), (1000, some (.box [.ref 25000 0 r154.Buffer.length, .ref 25001 0 r154.Disk.length, .ref 25002 0 r154.DiskLSN.length, .ref 25003 0 r154.Log.length, .i r154.Flushed, .i r154.LastID, .ref 25006 0 r154.Active.length])), (25000, R3 r154.Buffer), (25001, R3 r154.Disk), (25002, R3 r154.DiskLSN), (25003, R84 r154.Log), (25006, R3 r154.Active)]) Sub.tt ?_
    refine Chain.nil ?_
    cases h
    refine PostI.next ?_
    exact Sub.tt
   ·have c151_ : decide (v125 ≥ 0) = false := decide_eq_false c151
    refine AW.condF (b := decide (v125 ≥ 0)) rfl c151_ ?_
    refine AW.sub (Sub.bool 42 (b := decide (v125 ≥ 0)) rfl c151_) ?_
    refine AW.sub (S' := mk 79 [1000] [(0, .ptr 1000 0 0), (3, .ptr 3 0 0), (5, .ref 28 0 l84.length), (8, .i v125), (42, .b false)] [(3, some (.box [.i a1])), (28, R84 l84), (1000, some (.box [.ref 25000 0 l118.length, .ref 25001 0 l119.length, .ref 25002 0 l120.length, .ref 25003 0 l121.length, .i v122, .i v123, .ref 25006 0 l124.length])), (25000, R3 l118), (25001, R3 l119), (25002, R3 l120), (25003, R84 l121), (25006, R3 l124)]) (by simp; exact Sub.table (by simp) (by simp)) ?_
    refine AW.exit ?_
    cases h
    refine thenQ_pass (by simp) ?_
    refine PostI.out (by simp) ?_
    rintro rfl
    refine blockQ.hit ?_
    refine PostN.next ?_
    exact Sub.tt
  ·rintro ⟨l144, l145, l146, l147, v148, v149, l150⟩ h
   dsimp only at h ⊢
   refine thenQ_normal ?_
   refine AW.seqR ?_
   refine Chain.runK [] 3 fun K hK => ?_; simp; refine hK _ _ ?_; clear hK K
   refine Chain.sub (S' := mk 79 [1000] [(0, .ptr 1000 0 0), (3, .ptr 3 0 0), (5, .ref 28 0 l84.length), (64, .ptr 1000 0 0), (66, .agg [.i 3, .i a1, .i 0, .i 0, .i 0])] [(3, some (.box [.i a1])), (28, R84 l84), (1000, some (.box [.ref 25000 0 l144.length, .ref 25001 0 l145.length, .ref 25002 0 l146.length, .ref 25003 0 l147.length, .i v148, .i v149, .ref 25006 0 l150.length])), (25000, R3 l144), (25001, R3 l145), (25002, R3 l146), (25003, R84 l147), (25006, R3 l150)]) Sub.tt ?_
   replace h := bsome h; obtain ⟨r156, hr156, h⟩ := h
   refine Chain.callF (p27 N (S56.mk l144 l145 l146 l147 v148 v149 l150) (S84.mk 3 a1 0 0 0) r156 hr156) [(1000, 1000), (25000, 25000), (25001, 25001), (25002, 25002), (25003, 25003), (25006, 25006)] [1000] [(1000, 1000), (25000, 25000), (25001, 25001), (25002, 25002), (25003, 25003), (25006, 25006)] [(1000, (.box [.ref 25000 0 r156.Buffer.length, .ref 25001 0 r156.Disk.length, .ref 25002 0 r156.DiskLSN.length, .ref 25003 0 r156.Log.length, .i r156.Flushed, .i r156.LastID, .ref 25006 0 r156.Active.length])), (25000, (.arr 3 1 (r156.Buffer.map (cI .i64)))), (25001, (.arr 3 1 (r156.Disk.map (cI .i64)))), (25002, (.arr 3 1 (r156.DiskLSN.map (cI .i64)))), (25003, (.arr 84 5 (r156.Log.map cS84))), (25006, (.arr 3 1 (r156.Active.map (cI .i64))))] (.tup []) (by simp) rfl (by simp <;> rfl) (by simp) (by simp) (by simp) (by simp) (by simp) ent27 (by simp) (by simp) (by simp) (by simp) (by simp) (by simp) ?_
   refine Chain.sub (S' := mk 79 [1000] [(0, .ptr 1000 0 0), (3, .ptr 3 0 0), (5, .ref 28 0 l84.length), (64, .ptr 1000 0 0), (66, .agg [.i 3, .i a1, .i 0, .i 0, .i 0]), (67, .tup [])] [(3, some (.box [.i a1])), (28, R84 l84), (1000, some (.box [.ref 25000 0 r156.Buffer.length, .ref 25001 0 r156.Disk.length, .ref 25002 0 r156.DiskLSN.length, .ref 25003 0 r156.Log.length, .i r156.Flushed, .i r156.LastID, .ref 25006 0 r156.Active.length])), (25000, R3 r156.Buffer), (25001, R3 r156.Disk), (25002, R3 r156.DiskLSN), (25003, R84 r156.Log), (25006, R3 r156.Active)]) (by simp; exact Sub.table (by simp) (by simp)) ?_
   refine Chain.nil ?_
   refine AW.seqR ?_
   refine Chain.runK [] 6 fun K hK => ?_; simp; refine hK _ _ ?_; clear hK K
   refine Chain.sub (S' := mk 79 [1000] [(5, .ref 28 0 l84.length), (68, .ptr 1000 0 0), (72, .ref 25006 0 r156.Active.length), (73, .fn (.func 42) [.ptr 3 0 0])] [(3, some (.box [.i a1])), (28, R84 l84), (1000, some (.box [.ref 25000 0 r156.Buffer.length, .ref 25001 0 r156.Disk.length, .ref 25002 0 r156.DiskLSN.length, .ref 25003 0 r156.Log.length, .i r156.Flushed, .i r156.LastID, .ref 25006 0 r156.Active.length])), (25000, R3 r156.Buffer), (25001, R3 r156.Disk), (25002, R3 r156.DiskLSN), (25003, R84 r156.Log), (25006, R3 r156.Active)]) Sub.tt ?_
   refine Chain.sub (Sub.freezeBox 3 [.lit (.int .i64 a1)] rfl) ?_
   refine Chain.sub (S' := mk 79 [1000] [(5, .ref 28 0 l84.length), (68, .ptr 1000 0 0), (72, .ref 25006 0 r156.Active.length), (73, .fn (.func 42) [.d (.pim [.lit (.int .i64 a1)])])] [(28, R84 l84), (1000, some (.box [.ref 25000 0 r156.Buffer.length, .ref 25001 0 r156.Disk.length, .ref 25002 0 r156.DiskLSN.length, .ref 25003 0 r156.Log.length, .i r156.Flushed, .i r156.LastID, .ref 25006 0 r156.Active.length])), (25000, R3 r156.Buffer), (25001, R3 r156.Disk), (25002, R3 r156.DiskLSN), (25003, R84 r156.Log), (25006, R3 r156.Active)]) (by simp; exact Sub.table (by simp) (by simp)) ?_
   replace h := bsome h; obtain ⟨r157, hr157, h⟩ := h
   refine Chain.callF (p31 N r156.Active 42 [.pim [.lit (.int .i64 a1)]] (fun b0 => d42 N b0 a1) ent42 (fun b0 r h => p42 N b0 a1 r h) r157 hr157) [(25006, 1000)] [25006] [(1000, 25006)] [(25006, .arr 3 1 (r157.map (cI .i64)))] (.ref 25006 0 r157.length) (by simp) rfl (by simp <;> rfl) (by simp) (by simp) (by simp) (by simp) (by simp) ent31 (by simp) (by simp) (by simp) (by simp) (by simp) (by simp) ?_
   refine Chain.sub (S' := mk 79 [1000] [(5, .ref 28 0 l84.length), (68, .ptr 1000 0 0), (73, .fn (.func 42) [.d (.pim [.lit (.int .i64 a1)])]), (74, .ref 25006 0 r157.length)] [(28, R84 l84), (1000, some (.box [.ref 25000 0 r156.Buffer.length, .ref 25001 0 r156.Disk.length, .ref 25002 0 r156.DiskLSN.length, .ref 25003 0 r156.Log.length, .i r156.Flushed, .i r156.LastID, .ref 25006 0 r156.Active.length])), (25000, R3 r156.Buffer), (25001, R3 r156.Disk), (25002, R3 r156.DiskLSN), (25003, R84 r156.Log), (25006, R3 r157)]) (by simp; exact Sub.table (by simp) (by simp)) ?_
   refine Chain.runK [] 3 fun K hK => ?_; simp; refine hK _ _ ?_; clear hK K
   refine Chain.sub (S' := mk 79 [1000] [(5, .ref 28 0 l84.length)] [(28, R84 l84), (1000, some (.box [.ref 25000 0 r156.Buffer.length, .ref 25001 0 r156.Disk.length, .ref 25002 0 r156.DiskLSN.length, .ref 25003 0 r156.Log.length, .i r156.Flushed, .i r156.LastID, .ref 25006 0 r157.length])), (25000, R3 r156.Buffer), (25001, R3 r156.Disk), (25002, R3 r156.DiskLSN), (25003, R84 r156.Log), (25006, R3 r157)]) Sub.tt ?_
   refine Chain.nil ?_
   refine AW.seqR ?_
   refine Chain.runK [] 3 fun K hK => ?_; simp; refine hK _ _ ?_; clear hK K
   refine Chain.sub (S' := mk 79 [1000] [(4, .i (l84.length : Int))] [(1000, some (.box [.ref 25000 0 r156.Buffer.length, .ref 25001 0 r156.Disk.length, .ref 25002 0 r156.DiskLSN.length, .ref 25003 0 r156.Log.length, .i r156.Flushed, .i r156.LastID, .ref 25006 0 r157.length])), (25000, R3 r156.Buffer), (25001, R3 r156.Disk), (25002, R3 r156.DiskLSN), (25003, R84 r156.Log), (25006, R3 r157)]) Sub.tt ?_
   refine Chain.nil ?_
   refine AW.ret ?_
   cases h
   exact FinF.ret (by simp) (by simp)

/-- stemma/stemlaw5.recoveryStep$1 -/
def d32 (_N : Nat) (a0 : Int) (a1 : Int) : Option Bool :=
 some (a0 == a1)
set_option maxRecDepth 100000 in
set_option maxHeartbeats 4000000 in
theorem p32 (N : Nat) (a0 : Int) (a1 : Int) (r : Bool) (h : d32 N a0 a1 = some r) : FunC Try.prog 32 [.i a0, .d (.pim [.lit (.int .i64 a1)])] (.b r) := by
 unfold d32 at h
 refine FunC.enter 7 [(0, .i a0), (1, .d (.pim [.lit (.int .i64 a1)]))] (by simp) Try.func32 rfl (of_decide_eq_true rfl) rfl rfl ?_
 refine AW.seqR ?_
 refine Chain.runK [] 1 fun K hK => ?_; simp; refine hK _ _ ?_; clear hK K
 refine Chain.sub (S' := mk 7 [] [(0, .i a0), (1, .d (.pim [.lit (.int .i64 a1)]))] []) Sub.tt ?_
 refine Chain.nil ?_
 refine AW.seqR ?_
 refine Chain.runK [] 4 fun K hK => ?_; simp; refine hK _ _ ?_; clear hK K
 refine Chain.sub (S' := mk 7 [] [(3, .b (a0 == a1))] []) Sub.tt ?_
 refine Chain.nil ?_
 refine AW.ret ?_
 cases h
 exact FinC.ret (by simp) (by simp)

/-- (*stemma/recovery.Engine).FlushPage -/
def d33 (_N : Nat) (a0 : S74) (a1 : Int) : Option (S74 × Int) :=
 Option.bind (α := Bool) (
  if a1 < 0 then (
   some true
  ) else
  some (decide (a1 ≥ (a0.buffer.length : Int)))
 ) fun (v2 : Bool) =>
 if v2 = true then (
  some (a0, 1)
 ) else
 (idx a0.buffer a1).bind fun x5 =>
 letv (maxI a0.flushed x5.lsn) fun v7 =>
 (idx a0.disk a1).bind fun _x8 =>
 letv (setI a0.disk a1 x5) fun l9 =>
 some ((S74.mk a0.buffer l9 a0.log v7 a0.lastID a0.active a0.writer), 0)
set_option maxRecDepth 100000 in
set_option maxHeartbeats 4000000 in
theorem p33 (N : Nat) (a0 : S74) (a1 : Int) (r : (S74 × Int)) (h : d33 N a0 a1 = some r) : FunM Try.prog 33 [.ptr 1000 0 0, .i a1] [(1000, some (.box [.ref 25000 0 a0.buffer.length, .ref 25001 0 a0.disk.length, .ref 25002 0 a0.log.length, .i a0.flushed, .i a0.lastID, .ref 25005 0 a0.active.length, .ref 25006 0 a0.writer.length])), (25000, R78 a0.buffer), (25001, R78 a0.disk), (25002, R80 a0.log), (25005, R3 a0.active), (25006, R3 a0.writer)] [1000] (.i r.2) ([(1000, (.box [.ref 25000 0 r.1.buffer.length, .ref 25001 0 r.1.disk.length, .ref 25002 0 r.1.log.length, .i r.1.flushed, .i r.1.lastID, .ref 25005 0 r.1.active.length, .ref 25006 0 r.1.writer.length])), (25000, (.arr 78 2 (r.1.buffer.map cS78))), (25001, (.arr 78 2 (r.1.disk.map cS78))), (25002, (.arr 80 5 (r.1.log.map cS80))), (25005, (.arr 3 1 (r.1.active.map (cI .i64)))), (25006, (.arr 3 1 (r.1.writer.map (cI .i64))))]) := by
 unfold d33 at h
 refine FunM.enter 45 [(0, .ptr 1000 0 0), (1, .i a1)] Try.func33 rfl (of_decide_eq_true rfl) rfl rfl ?_
 refine AW.seqR ?_
 refine Chain.runK [] 1 fun K hK => ?_; simp; refine hK _ _ ?_; clear hK K
 refine Chain.sub (S' := mk 45 [1000] [(0, .ptr 1000 0 0), (1, .i a1)] [(1000, some (.box [.ref 25000 0 a0.buffer.length, .ref 25001 0 a0.disk.length, .ref 25002 0 a0.log.length, .i a0.flushed, .i a0.lastID, .ref 25005 0 a0.active.length, .ref 25006 0 a0.writer.length])), (25000, R78 a0.buffer), (25001, R78 a0.disk), (25002, R80 a0.log), (25005, R3 a0.active), (25006, R3 a0.writer)]) Sub.tt ?_
 refine Chain.nil ?_
 refine AW.seq ?_
 replace h := bsome h; obtain ⟨v2, hj, h⟩ := h
 refine AW.cutR (mk 45 [1000] [(0, .ptr 1000 0 0), (1, .i a1), (15, .b v2)] [(1000, some (.box [.ref 25000 0 a0.buffer.length, .ref 25001 0 a0.disk.length, .ref 25002 0 a0.log.length, .i a0.flushed, .i a0.lastID, .ref 25005 0 a0.active.length, .ref 25006 0 a0.writer.length])), (25000, R78 a0.buffer), (25001, R78 a0.disk), (25002, R80 a0.log), (25005, R3 a0.active), (25006, R3 a0.writer)]) ?_ ?_
 ·clear h; have h := hj; clear hj
  refine Chain.runK [] 3 fun K hK => ?_; simp; refine hK _ _ ?_; clear hK K
  refine Chain.sub (S' := mk 45 [1000] [(0, .ptr 1000 0 0), (1, .i a1), (7, .b (decide (a1 < 0)))] [(1000, some (.box [.ref 25000 0 a0.buffer.length, .ref 25001 0 a0.disk.length, .ref 25002 0 a0.log.length, .i a0.flushed, .i a0.lastID, .ref 25005 0 a0.active.length, .ref 25006 0 a0.writer.length])), (25000, R78 a0.buffer), (25001, R78 a0.disk), (25002, R80 a0.log), (25005, R3 a0.active), (25006, R3 a0.writer)]) Sub.tt ?_
  replace h := isome h; rcases h with ⟨c3, h⟩ | ⟨c3, h⟩
  ·have c3_ : decide (a1 < 0) = true := decide_eq_true c3
   refine Chain.sub (Sub.bool 7 (b := decide (a1 < 0)) rfl c3_) ?_
   refine Chain.sub (S' := mk 45 [1000] [(0, .ptr 1000 0 0), (1, .i a1), (7, .b true)] [(1000, some (.box [.ref 25000 0 a0.buffer.length, .ref 25001 0 a0.disk.length, .ref 25002 0 a0.log.length, .i a0.flushed, .i a0.lastID, .ref 25005 0 a0.active.length, .ref 25006 0 a0.writer.length])), (25000, R78 a0.buffer), (25001, R78 a0.disk), (25002, R80 a0.log), (25005, R3 a0.active), (25006, R3 a0.writer)]) (by simp; exact Sub.table (by simp) (by simp)) ?_
   refine Chain.runK [] 8 fun K hK => ?_; simp; refine hK _ _ ?_; clear hK K
   refine Chain.sub (S' := mk 45 [1000] [(0, .ptr 1000 0 0), (1, .i a1), (15, .b true)] [(1000, some (.box [.ref 25000 0 a0.buffer.length, .ref 25001 0 a0.disk.length, .ref 25002 0 a0.log.length, .i a0.flushed, .i a0.lastID, .ref 25005 0 a0.active.length, .ref 25006 0 a0.writer.length])), (25000, R78 a0.buffer), (25001, R78 a0.disk), (25002, R80 a0.log), (25005, R3 a0.active), (25006, R3 a0.writer)]) Sub.tt ?_
   cases h
   exact Chain.nil Sub.tt
  ·have c3_ : decide (a1 < 0) = false := decide_eq_false c3
   refine Chain.sub (Sub.bool 7 (b := decide (a1 < 0)) rfl c3_) ?_
   refine Chain.sub (S' := mk 45 [1000] [(0, .ptr 1000 0 0), (1, .i a1), (7, .b false)] [(1000, some (.box [.ref 25000 0 a0.buffer.length, .ref 25001 0 a0.disk.length, .ref 25002 0 a0.log.length, .i a0.flushed, .i a0.lastID, .ref 25005 0 a0.active.length, .ref 25006 0 a0.writer.length])), (25000, R78 a0.buffer), (25001, R78 a0.disk), (25002, R80 a0.log), (25005, R3 a0.active), (25006, R3 a0.writer)]) (by simp; exact Sub.table (by simp) (by simp)) ?_
   refine Chain.runK [] 8 fun K hK => ?_; simp; refine hK _ _ ?_; clear hK K
   refine Chain.sub (S' := mk 45 [1000] [(0, .ptr 1000 0 0), (1, .i a1), (15, .b (decide (a1 ≥ (a0.buffer.length : Int))))] [(1000, some (.box [.ref 25000 0 a0.buffer.length, .ref 25001 0 a0.disk.length, .ref 25002 0 a0.log.length, .i a0.flushed, .i a0.lastID, .ref 25005 0 a0.active.length, .ref 25006 0 a0.writer.length])), (25000, R78 a0.buffer), (25001, R78 a0.disk), (25002, R80 a0.log), (25005, R3 a0.active), (25006, R3 a0.writer)]) Sub.tt ?_
   cases h
   exact Chain.nil Sub.tt
 ·clear hj
  replace h := isome h; rcases h with ⟨c4, h⟩ | ⟨c4, h⟩
  ·have c4_ : v2 = true := c4
   refine AW.condT (b := v2) rfl c4_ ?_
   refine AW.sub (Sub.bool 15 (b := v2) rfl c4_) ?_
   refine AW.sub (S' := mk 45 [1000] [(0, .ptr 1000 0 0), (1, .i a1), (15, .b true)] [(1000, some (.box [.ref 25000 0 a0.buffer.length, .ref 25001 0 a0.disk.length, .ref 25002 0 a0.log.length, .i a0.flushed, .i a0.lastID, .ref 25005 0 a0.active.length, .ref 25006 0 a0.writer.length])), (25000, R78 a0.buffer), (25001, R78 a0.disk), (25002, R80 a0.log), (25005, R3 a0.active), (25006, R3 a0.writer)]) (by simp; exact Sub.table (by simp) (by simp)) ?_
   refine AW.seqR ?_
   refine Chain.runK [] 1 fun K hK => ?_; simp; refine hK _ _ ?_; clear hK K
   refine Chain.sub (S' := mk 45 [1000] [(4, .i 1)] [(1000, some (.box [.ref 25000 0 a0.buffer.length, .ref 25001 0 a0.disk.length, .ref 25002 0 a0.log.length, .i a0.flushed, .i a0.lastID, .ref 25005 0 a0.active.length, .ref 25006 0 a0.writer.length])), (25000, R78 a0.buffer), (25001, R78 a0.disk), (25002, R80 a0.log), (25005, R3 a0.active), (25006, R3 a0.writer)]) Sub.tt ?_
   refine Chain.nil ?_
   refine AW.ret ?_
   cases h
   refine thenQ_pass (by simp) ?_
   exact FinF.ret (by simp) (by simp)
  ·have c4_ : v2 = false := Bool.eq_false_iff.2 c4
   refine AW.condF (b := v2) rfl c4_ ?_
   refine AW.sub (Sub.bool 15 (b := v2) rfl c4_) ?_
   refine AW.sub (S' := mk 45 [1000] [(0, .ptr 1000 0 0), (1, .i a1), (15, .b false)] [(1000, some (.box [.ref 25000 0 a0.buffer.length, .ref 25001 0 a0.disk.length, .ref 25002 0 a0.log.length, .i a0.flushed, .i a0.lastID, .ref 25005 0 a0.active.length, .ref 25006 0 a0.writer.length])), (25000, R78 a0.buffer), (25001, R78 a0.disk), (25002, R80 a0.log), (25005, R3 a0.active), (25006, R3 a0.writer)]) (by simp; exact Sub.table (by simp) (by simp)) ?_
   refine AW.skip ?_
   refine thenQ_normal ?_
   replace h := bsome h; obtain ⟨x5, hx5, h⟩ := h
   obtain ⟨k6, hx5k, hx5, hx5a, hx5b⟩ := idx_some hx5
   replace h := lsome h; obtain ⟨v7, hv7, h⟩ := h
   unfold maxI at hv7
   refine AW.seqT 16 (by kernel_rfl) (by kernel_rfl) fun K hK => ?_; simp [hx5, hx5k, hx5a, hx5b, hv7]; refine hK _ _ ?_; clear hK K
   refine Chain.sub (S' := mk 45 [1000] [(0, .ptr 1000 0 0), (1, .i a1), (29, .i v7), (31, .ptr 1000 0 3)] [(1000, some (.box [.ref 25000 0 a0.buffer.length, .ref 25001 0 a0.disk.length, .ref 25002 0 a0.log.length, .i a0.flushed, .i a0.lastID, .ref 25005 0 a0.active.length, .ref 25006 0 a0.writer.length])), (25000, R78 a0.buffer), (25001, R78 a0.disk), (25002, R80 a0.log), (25005, R3 a0.active), (25006, R3 a0.writer)]) Sub.tt ?_
   refine Chain.runK [] 1 fun K hK => ?_; simp; refine hK _ _ ?_; clear hK K
   refine Chain.sub (S' := mk 45 [1000] [(0, .ptr 1000 0 0), (1, .i a1)] [(1000, some (.box [.ref 25000 0 a0.buffer.length, .ref 25001 0 a0.disk.length, .ref 25002 0 a0.log.length, .i v7, .i a0.lastID, .ref 25005 0 a0.active.length, .ref 25006 0 a0.writer.length])), (25000, R78 a0.buffer), (25001, R78 a0.disk), (25002, R80 a0.log), (25005, R3 a0.active), (25006, R3 a0.writer)]) Sub.tt ?_
   refine Chain.nil ?_
   replace h := bsome h; obtain ⟨x8, hx8, h⟩ := h
   obtain ⟨hx8, hx8a, hx8b⟩ := idx_some2 hx8 hx5k
   refine AW.seqT 13 (by kernel_rfl) (by kernel_rfl) fun K hK => ?_; simp [hx5, hx5a, hx5b, hx5k, hx8b]; refine hK _ _ ?_; clear hK K
   refine Chain.sub (S' := mk 45 [1000] [(43, .agg [.i x5.value, .i x5.lsn]), (44, .ptr 25001 k6 0)] [(1000, some (.box [.ref 25000 0 a0.buffer.length, .ref 25001 0 a0.disk.length, .ref 25002 0 a0.log.length, .i v7, .i a0.lastID, .ref 25005 0 a0.active.length, .ref 25006 0 a0.writer.length])), (25000, R78 a0.buffer), (25001, R78 a0.disk), (25002, R80 a0.log), (25005, R3 a0.active), (25006, R3 a0.writer)]) Sub.tt ?_
   replace h := lsome h; obtain ⟨l9, gl9, h⟩ := h
   obtain ⟨hl9, hl9n⟩ := setI_some cS78 gl9 hx5k
   replace hl9 : (a0.disk.map cS78).set k6 [.lit (.int .i64 x5.value), .lit (.int .i64 x5.lsn)] = l9.map cS78 := hl9
   clear gl9
   refine Chain.runK [] 1 fun K hK => ?_; simp [hx8, hl9]; refine hK _ _ ?_; clear hK K
   refine Chain.sub (S' := mk 45 [1000] [] [(1000, some (.box [.ref 25000 0 a0.buffer.length, .ref 25001 0 l9.length, .ref 25002 0 a0.log.length, .i v7, .i a0.lastID, .ref 25005 0 a0.active.length, .ref 25006 0 a0.writer.length])), (25000, R78 a0.buffer), (25001, R78 l9), (25002, R80 a0.log), (25005, R3 a0.active), (25006, R3 a0.writer)]) (Sub.table (by simp) (by simp [hl9n])) ?_
   refine Chain.nil ?_
   refine AW.seqR ?_
   refine Chain.runK [] 1 fun K hK => ?_; simp; refine hK _ _ ?_; clear hK K
   refine Chain.sub (S' := mk 45 [1000] [(4, .i 0)] [(1000, some (.box [.ref 25000 0 a0.buffer.length, .ref 25001 0 l9.length, .ref 25002 0 a0.log.length, .i v7, .i a0.lastID, .ref 25005 0 a0.active.length, .ref 25006 0 a0.writer.length])), (25000, R78 a0.buffer), (25001, R78 l9), (25002, R80 a0.log), (25005, R3 a0.active), (25006, R3 a0.writer)]) Sub.tt ?_
   refine Chain.nil ?_
   refine AW.ret ?_
   cases h
   exact FinF.ret (by simp) (by simp)

end Go.Proofs.Ytiikoldaocnilaa
