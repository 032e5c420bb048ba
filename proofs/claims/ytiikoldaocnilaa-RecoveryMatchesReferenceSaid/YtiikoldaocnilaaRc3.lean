/- Functions of the program as functional programs; the code computes them. -/
import Derived.Test.YtiikoldaocnilaaRc2
namespace Go.Proofs.Ytiikoldaocnilaa
open Go.Ab Go.Rp
attribute [-simp] List.all_eq_true Array.all_toList Array.all_eq_true

/-- (*stemma/stemref5.Engine).Writer -/
def d26 (N : Nat) (a0 : S56) (a1 : Int) : Option Int :=
 bindO (β := Unit) (ρ := Int) (
  iterN (σ := Int) (ρ := (Out Unit Int)) (fun (v12 : Int) =>
   if v12 < (a0.Log.length : Int) then (
    (idx a0.Log v12).bind fun x39 =>
    Option.bind (α := Bool) (
     if (x39.Kind == 1) then (
      if (x39.Page == a1) then (
       (d24 N a0.Active x39.Tx).bind fun r47 =>
       some r47
      ) else
      some false
     ) else
     some false
    ) fun (v44 : Bool) =>
    if v44 = true then (
     some (.inr (.ret x39.Tx))
    ) else
    (chkI (v12 + 1)).bind fun v49 =>
    some (.inl v49)
   ) else
   some (.inr (.go ()))
  ) N 0
 ) fun (_ : Unit) =>
 some 0
set_option maxRecDepth 100000 in
set_option maxHeartbeats 4000000 in
theorem p26 (N : Nat) (a0 : S56) (a1 : Int) (r : Int) (h : d26 N a0 a1 = some r) : FunC Try.prog 26 [.d (.pim [.sl (a0.Buffer.map (cI .i64)), .sl (a0.Disk.map (cI .i64)), .sl (a0.DiskLSN.map (cI .i64)), .sl (a0.Log.map cS84), .lit (.int .i64 a0.Flushed), .lit (.int .i64 a0.LastID), .sl (a0.Active.map (cI .i64))]), .i a1] (.i r) := by
 unfold d26 at h
 refine FunC.enter 37 [(0, .d (.pim [.sl (a0.Buffer.map (cI .i64)), .sl (a0.Disk.map (cI .i64)), .sl (a0.DiskLSN.map (cI .i64)), .sl (a0.Log.map cS84), .lit (.int .i64 a0.Flushed), .lit (.int .i64 a0.LastID), .sl (a0.Active.map (cI .i64))])), (1, .i a1)] (by simp) Try.func26 rfl (of_decide_eq_true rfl) rfl rfl ?_
 refine AW.seqR ?_
 refine Chain.runK [] 1 fun K hK => ?_; simp; refine hK _ _ ?_; clear hK K
 refine Chain.sub (S' := mk 37 [] [(0, .d (.pim [.sl (a0.Buffer.map (cI .i64)), .sl (a0.Disk.map (cI .i64)), .sl (a0.DiskLSN.map (cI .i64)), .sl (a0.Log.map cS84), .lit (.int .i64 a0.Flushed), .lit (.int .i64 a0.LastID), .sl (a0.Active.map (cI .i64))])), (1, .i a1)] []) Sub.tt ?_
 refine Chain.nil ?_
 refine AW.seq ?_
 refine AW.seqR ?_
 refine Chain.runK [] 6 fun K hK => ?_; simp; refine hK _ _ ?_; clear hK K
 refine Chain.sub (S' := mk 37 [] [(0, .d (.pim [.sl (a0.Buffer.map (cI .i64)), .sl (a0.Disk.map (cI .i64)), .sl (a0.DiskLSN.map (cI .i64)), .sl (a0.Log.map cS84), .lit (.int .i64 a0.Flushed), .lit (.int .i64 a0.LastID), .sl (a0.Active.map (cI .i64))])), (1, .i a1), (10, .d (.sl (a0.Log.map cS84))), (11, .i (a0.Log.length : Int)), (12, .i 0)] []) Sub.tt ?_
 refine Chain.nil ?_
 refine AW.lastJ (fun (_ : Unit) => mk 37 [] [] []) h ?_ ?_ <;> clear h
 ·intro o h
  refine AW.block ?_
  refine AW.iter (fun (v12 : Int) => mk 37 [] [(0, .d (.pim [.sl (a0.Buffer.map (cI .i64)), .sl (a0.Disk.map (cI .i64)), .sl (a0.DiskLSN.map (cI .i64)), .sl (a0.Log.map cS84), .lit (.int .i64 a0.Flushed), .lit (.int .i64 a0.LastID), .sl (a0.Active.map (cI .i64))])), (1, .i a1), (10, .d (.sl (a0.Log.map cS84))), (11, .i (a0.Log.length : Int)), (12, .i v12)] []) h Sub.tt ?_
  clear h
  rintro v12 x h
  refine AW.seqR ?_
  refine Chain.runK [] 1 fun K hK => ?_; simp; refine hK _ _ ?_; clear hK K
  refine Chain.sub (S' := mk 37 [] [(0, .d (.pim [.sl (a0.Buffer.map (cI .i64)), .sl (a0.Disk.map (cI .i64)), .sl (a0.DiskLSN.map (cI .i64)), .sl (a0.Log.map cS84), .lit (.int .i64 a0.Flushed), .lit (.int .i64 a0.LastID), .sl (a0.Active.map (cI .i64))])), (1, .i a1), (10, .d (.sl (a0.Log.map cS84))), (11, .i (a0.Log.length : Int)), (12, .i v12), (13, .b (decide (v12 < (a0.Log.length : Int))))] []) Sub.tt ?_
  refine Chain.nil ?_
  refine AW.seq ?_
  replace h := isome h; rcases h with ⟨c38, h⟩ | ⟨c38, h⟩
  ·have c38_ : decide (v12 < (a0.Log.length : Int)) = true := decide_eq_true c38
   refine AW.condT (b := decide (v12 < (a0.Log.length : Int))) rfl c38_ ?_
   refine AW.sub (Sub.bool 13 (b := decide (v12 < (a0.Log.length : Int))) rfl c38_) ?_
   refine AW.sub (S' := mk 37 [] [(0, .d (.pim [.sl (a0.Buffer.map (cI .i64)), .sl (a0.Disk.map (cI .i64)), .sl (a0.DiskLSN.map (cI .i64)), .sl (a0.Log.map cS84), .lit (.int .i64 a0.Flushed), .lit (.int .i64 a0.LastID), .sl (a0.Active.map (cI .i64))])), (1, .i a1), (10, .d (.sl (a0.Log.map cS84))), (11, .i (a0.Log.length : Int)), (12, .i v12), (13, .b true)] []) (by simp; exact Sub.table (by simp) (by simp)) ?_
   refine AW.skip ?_
   refine thenQ_normal ?_
   refine AW.seq ?_
   refine AW.block ?_
   refine AW.seqR ?_
   replace h := bsome h; obtain ⟨x39, hx39, h⟩ := h
   obtain ⟨k40, hx39k, hx39, hx39a, hx39b⟩ := idx_some hx39
   refine Chain.runK [] 4 fun K hK => ?_; simp [hx39, hx39k, hx39a]; refine hK _ _ ?_; clear hK K
   refine Chain.sub (S' := mk 37 [] [(0, .d (.pim [.sl (a0.Buffer.map (cI .i64)), .sl (a0.Disk.map (cI .i64)), .sl (a0.DiskLSN.map (cI .i64)), .sl (a0.Log.map cS84), .lit (.int .i64 a0.Flushed), .lit (.int .i64 a0.LastID), .sl (a0.Active.map (cI .i64))])), (1, .i a1), (6, .ptr 6 0 0), (10, .d (.sl (a0.Log.map cS84))), (11, .i (a0.Log.length : Int)), (12, .i v12)] [(6, some (.box [.i x39.Kind, .i x39.Tx, .i x39.Page, .i x39.Before, .i x39.After]))]) Sub.tt ?_
   refine Chain.nil ?_
   replace h := bsome h; obtain ⟨v44, hj, h⟩ := h
   refine AW.cutQ (by kernel_rfl) (by kernel_rfl) (mk 37 [] [(0, .d (.pim [.sl (a0.Buffer.map (cI .i64)), .sl (a0.Disk.map (cI .i64)), .sl (a0.DiskLSN.map (cI .i64)), .sl (a0.Log.map cS84), .lit (.int .i64 a0.Flushed), .lit (.int .i64 a0.LastID), .sl (a0.Active.map (cI .i64))])), (1, .i a1), (6, .ptr 6 0 0), (10, .d (.sl (a0.Log.map cS84))), (11, .i (a0.Log.length : Int)), (12, .i v12), (33, .b v44)] [(6, some (.box [.i x39.Kind, .i x39.Tx, .i x39.Page, .i x39.Before, .i x39.After]))]) ?_ ?_
   ·clear h; have h := hj; clear hj
    refine Chain.runQ 4 fun K hK => ?_; simp; refine hK _ _ ?_; clear hK K
    refine Chain.sub (S' := mk 37 [] [(0, .d (.pim [.sl (a0.Buffer.map (cI .i64)), .sl (a0.Disk.map (cI .i64)), .sl (a0.DiskLSN.map (cI .i64)), .sl (a0.Log.map cS84), .lit (.int .i64 a0.Flushed), .lit (.int .i64 a0.LastID), .sl (a0.Active.map (cI .i64))])), (1, .i a1), (6, .ptr 6 0 0), (10, .d (.sl (a0.Log.map cS84))), (11, .i (a0.Log.length : Int)), (12, .i v12), (19, .b (x39.Kind == 1))] [(6, some (.box [.i x39.Kind, .i x39.Tx, .i x39.Page, .i x39.Before, .i x39.After]))]) Sub.tt ?_
    replace h := isome h; rcases h with ⟨c45, h⟩ | ⟨c45, h⟩
    ·have c45_ : (x39.Kind == 1) = true := c45
     refine Chain.sub (Sub.bool 19 (b := (x39.Kind == 1)) rfl c45_) ?_
     refine Chain.sub (S' := mk 37 [] [(0, .d (.pim [.sl (a0.Buffer.map (cI .i64)), .sl (a0.Disk.map (cI .i64)), .sl (a0.DiskLSN.map (cI .i64)), .sl (a0.Log.map cS84), .lit (.int .i64 a0.Flushed), .lit (.int .i64 a0.LastID), .sl (a0.Active.map (cI .i64))])), (1, .i a1), (6, .ptr 6 0 0), (10, .d (.sl (a0.Log.map cS84))), (11, .i (a0.Log.length : Int)), (12, .i v12), (19, .b true)] [(6, some (.box [.i x39.Kind, .i x39.Tx, .i x39.Page, .i x39.Before, .i x39.After]))]) (by simp; exact Sub.table (by simp) (by simp)) ?_
     refine Chain.runQ 6 fun K hK => ?_; simp; refine hK _ _ ?_; clear hK K
     refine Chain.sub (S' := mk 37 [] [(0, .d (.pim [.sl (a0.Buffer.map (cI .i64)), .sl (a0.Disk.map (cI .i64)), .sl (a0.DiskLSN.map (cI .i64)), .sl (a0.Log.map cS84), .lit (.int .i64 a0.Flushed), .lit (.int .i64 a0.LastID), .sl (a0.Active.map (cI .i64))])), (1, .i a1), (6, .ptr 6 0 0), (10, .d (.sl (a0.Log.map cS84))), (11, .i (a0.Log.length : Int)), (12, .i v12), (20, .ptr 6 0 2), (21, .i x39.Page), (22, .i a1), (23, .b (x39.Page == a1)), (25, .b (x39.Page == a1))] [(6, some (.box [.i x39.Kind, .i x39.Tx, .i x39.Page, .i x39.Before, .i x39.After]))]) Sub.tt ?_
     replace h := isome h; rcases h with ⟨c46, h⟩ | ⟨c46, h⟩
     ·have c46_ : (x39.Page == a1) = true := c46
      refine Chain.sub (Sub.bool 23 (b := (x39.Page == a1)) rfl c46_) ?_
      refine Chain.sub (Sub.bool 25 (b := (x39.Page == a1)) rfl c46_) ?_
      refine Chain.sub (S' := mk 37 [] [(0, .d (.pim [.sl (a0.Buffer.map (cI .i64)), .sl (a0.Disk.map (cI .i64)), .sl (a0.DiskLSN.map (cI .i64)), .sl (a0.Log.map cS84), .lit (.int .i64 a0.Flushed), .lit (.int .i64 a0.LastID), .sl (a0.Active.map (cI .i64))])), (1, .i a1), (6, .ptr 6 0 0), (10, .d (.sl (a0.Log.map cS84))), (11, .i (a0.Log.length : Int)), (12, .i v12), (20, .ptr 6 0 2), (21, .i x39.Page), (22, .i a1), (23, .b true), (25, .b true)] [(6, some (.box [.i x39.Kind, .i x39.Tx, .i x39.Page, .i x39.Before, .i x39.After]))]) (by simp; exact Sub.table (by simp) (by simp)) ?_
      refine Chain.runQ 6 fun K hK => ?_; simp; refine hK _ _ ?_; clear hK K
      refine Chain.sub (S' := mk 37 [] [(0, .d (.pim [.sl (a0.Buffer.map (cI .i64)), .sl (a0.Disk.map (cI .i64)), .sl (a0.DiskLSN.map (cI .i64)), .sl (a0.Log.map cS84), .lit (.int .i64 a0.Flushed), .lit (.int .i64 a0.LastID), .sl (a0.Active.map (cI .i64))])), (1, .i a1), (6, .ptr 6 0 0), (10, .d (.sl (a0.Log.map cS84))), (11, .i (a0.Log.length : Int)), (12, .i v12), (20, .ptr 6 0 2), (21, .i x39.Page), (22, .i a1), (23, .b true), (25, .b true), (26, .d (.pim [.sl (a0.Buffer.map (cI .i64)), .sl (a0.Disk.map (cI .i64)), .sl (a0.DiskLSN.map (cI .i64)), .sl (a0.Log.map cS84), .lit (.int .i64 a0.Flushed), .lit (.int .i64 a0.LastID), .sl (a0.Active.map (cI .i64))])), (27, .d (.pim [.sl (a0.Buffer.map (cI .i64)), .sl (a0.Disk.map (cI .i64)), .sl (a0.DiskLSN.map (cI .i64)), .sl (a0.Log.map cS84), .lit (.int .i64 a0.Flushed), .lit (.int .i64 a0.LastID), .sl (a0.Active.map (cI .i64))])), (28, .d (.pim [.sl (a0.Active.map (cI .i64))])), (29, .d (.sl (a0.Active.map (cI .i64)))), (30, .ptr 6 0 1), (31, .i x39.Tx)] [(6, some (.box [.i x39.Kind, .i x39.Tx, .i x39.Page, .i x39.Before, .i x39.After]))]) Sub.tt ?_
      replace h := bsome h; obtain ⟨r47, hr47, h⟩ := h
      refine Chain.callL (d := 32) (p24 N a0.Active x39.Tx r47 hr47) (by simp) rfl rfl (by simp <;> rfl) (by simp <;> rfl) ent24 (by simp <;> rfl) ?_
      refine Chain.sub (S' := mk 37 [] [(0, .d (.pim [.sl (a0.Buffer.map (cI .i64)), .sl (a0.Disk.map (cI .i64)), .sl (a0.DiskLSN.map (cI .i64)), .sl (a0.Log.map cS84), .lit (.int .i64 a0.Flushed), .lit (.int .i64 a0.LastID), .sl (a0.Active.map (cI .i64))])), (1, .i a1), (6, .ptr 6 0 0), (10, .d (.sl (a0.Log.map cS84))), (11, .i (a0.Log.length : Int)), (12, .i v12), (20, .ptr 6 0 2), (21, .i x39.Page), (22, .i a1), (23, .b true), (25, .b true), (26, .d (.pim [.sl (a0.Buffer.map (cI .i64)), .sl (a0.Disk.map (cI .i64)), .sl (a0.DiskLSN.map (cI .i64)), .sl (a0.Log.map cS84), .lit (.int .i64 a0.Flushed), .lit (.int .i64 a0.LastID), .sl (a0.Active.map (cI .i64))])), (27, .d (.pim [.sl (a0.Buffer.map (cI .i64)), .sl (a0.Disk.map (cI .i64)), .sl (a0.DiskLSN.map (cI .i64)), .sl (a0.Log.map cS84), .lit (.int .i64 a0.Flushed), .lit (.int .i64 a0.LastID), .sl (a0.Active.map (cI .i64))])), (28, .d (.pim [.sl (a0.Active.map (cI .i64))])), (29, .d (.sl (a0.Active.map (cI .i64)))), (30, .ptr 6 0 1), (31, .i x39.Tx), (32, .b r47)] [(6, some (.box [.i x39.Kind, .i x39.Tx, .i x39.Page, .i x39.Before, .i x39.After]))]) (by simp; exact Sub.table (by simp) (by simp)) ?_
      refine Chain.runQ 1 fun K hK => ?_; simp; refine hK _ _ ?_; clear hK K
      refine Chain.sub (S' := mk 37 [] [(0, .d (.pim [.sl (a0.Buffer.map (cI .i64)), .sl (a0.Disk.map (cI .i64)), .sl (a0.DiskLSN.map (cI .i64)), .sl (a0.Log.map cS84), .lit (.int .i64 a0.Flushed), .lit (.int .i64 a0.LastID), .sl (a0.Active.map (cI .i64))])), (1, .i a1), (6, .ptr 6 0 0), (10, .d (.sl (a0.Log.map cS84))), (11, .i (a0.Log.length : Int)), (12, .i v12), (20, .ptr 6 0 2), (21, .i x39.Page), (22, .i a1), (23, .b true), (26, .d (.pim [.sl (a0.Buffer.map (cI .i64)), .sl (a0.Disk.map (cI .i64)), .sl (a0.DiskLSN.map (cI .i64)), .sl (a0.Log.map cS84), .lit (.int .i64 a0.Flushed), .lit (.int .i64 a0.LastID), .sl (a0.Active.map (cI .i64))])), (27, .d (.pim [.sl (a0.Buffer.map (cI .i64)), .sl (a0.Disk.map (cI .i64)), .sl (a0.DiskLSN.map (cI .i64)), .sl (a0.Log.map cS84), .lit (.int .i64 a0.Flushed), .lit (.int .i64 a0.LastID), .sl (a0.Active.map (cI .i64))])), (28, .d (.pim [.sl (a0.Active.map (cI .i64))])), (29, .d (.sl (a0.Active.map (cI .i64)))), (30, .ptr 6 0 1), (31, .i x39.Tx), (32, .b r47), (33, .b r47)] [(6, some (.box [.i x39.Kind, .i x39.Tx, .i x39.Page, .i x39.Before, .i x39.After]))]) Sub.tt ?_
      cases h
      exact Chain.nil Sub.tt
     ·have c46_ : (x39.Page == a1) = false := Bool.eq_false_iff.2 c46
      refine Chain.sub (Sub.bool 23 (b := (x39.Page == a1)) rfl c46_) ?_
      refine Chain.sub (Sub.bool 25 (b := (x39.Page == a1)) rfl c46_) ?_
      refine Chain.sub (S' := mk 37 [] [(0, .d (.pim [.sl (a0.Buffer.map (cI .i64)), .sl (a0.Disk.map (cI .i64)), .sl (a0.DiskLSN.map (cI .i64)), .sl (a0.Log.map cS84), .lit (.int .i64 a0.Flushed), .lit (.int .i64 a0.LastID), .sl (a0.Active.map (cI .i64))])), (1, .i a1), (6, .ptr 6 0 0), (10, .d (.sl (a0.Log.map cS84))), (11, .i (a0.Log.length : Int)), (12, .i v12), (20, .ptr 6 0 2), (21, .i x39.Page), (22, .i a1), (23, .b false), (25, .b false)] [(6, some (.box [.i x39.Kind, .i x39.Tx, .i x39.Page, .i x39.Before, .i x39.After]))]) (by simp; exact Sub.table (by simp) (by simp)) ?_
      refine Chain.runQ 8 fun K hK => ?_; simp; refine hK _ _ ?_; clear hK K
      refine Chain.sub (S' := mk 37 [] [(0, .d (.pim [.sl (a0.Buffer.map (cI .i64)), .sl (a0.Disk.map (cI .i64)), .sl (a0.DiskLSN.map (cI .i64)), .sl (a0.Log.map cS84), .lit (.int .i64 a0.Flushed), .lit (.int .i64 a0.LastID), .sl (a0.Active.map (cI .i64))])), (1, .i a1), (6, .ptr 6 0 0), (10, .d (.sl (a0.Log.map cS84))), (11, .i (a0.Log.length : Int)), (12, .i v12), (20, .ptr 6 0 2), (21, .i x39.Page), (22, .i a1), (23, .b false), (26, .tup []), (27, .tup []), (28, .tup []), (29, .tup []), (30, .tup []), (31, .tup []), (32, .tup []), (33, .b false)] [(6, some (.box [.i x39.Kind, .i x39.Tx, .i x39.Page, .i x39.Before, .i x39.After]))]) Sub.tt ?_
      cases h
      exact Chain.nil Sub.tt
    ·have c45_ : (x39.Kind == 1) = false := Bool.eq_false_iff.2 c45
     refine Chain.sub (Sub.bool 19 (b := (x39.Kind == 1)) rfl c45_) ?_
     refine Chain.sub (S' := mk 37 [] [(0, .d (.pim [.sl (a0.Buffer.map (cI .i64)), .sl (a0.Disk.map (cI .i64)), .sl (a0.DiskLSN.map (cI .i64)), .sl (a0.Log.map cS84), .lit (.int .i64 a0.Flushed), .lit (.int .i64 a0.LastID), .sl (a0.Active.map (cI .i64))])), (1, .i a1), (6, .ptr 6 0 0), (10, .d (.sl (a0.Log.map cS84))), (11, .i (a0.Log.length : Int)), (12, .i v12), (19, .b false)] [(6, some (.box [.i x39.Kind, .i x39.Tx, .i x39.Page, .i x39.Before, .i x39.After]))]) (by simp; exact Sub.table (by simp) (by simp)) ?_
     refine Chain.runQ 14 fun K hK => ?_; simp; refine hK _ _ ?_; clear hK K
     refine Chain.sub (S' := mk 37 [] [(0, .d (.pim [.sl (a0.Buffer.map (cI .i64)), .sl (a0.Disk.map (cI .i64)), .sl (a0.DiskLSN.map (cI .i64)), .sl (a0.Log.map cS84), .lit (.int .i64 a0.Flushed), .lit (.int .i64 a0.LastID), .sl (a0.Active.map (cI .i64))])), (1, .i a1), (6, .ptr 6 0 0), (10, .d (.sl (a0.Log.map cS84))), (11, .i (a0.Log.length : Int)), (12, .i v12), (20, .tup []), (21, .tup []), (22, .tup []), (23, .tup []), (26, .tup []), (27, .tup []), (28, .tup []), (29, .tup []), (30, .tup []), (31, .tup []), (32, .tup []), (33, .b false)] [(6, some (.box [.i x39.Kind, .i x39.Tx, .i x39.Page, .i x39.Before, .i x39.After]))]) Sub.tt ?_
     cases h
     exact Chain.nil Sub.tt
   ·clear hj
    replace h := isome h; rcases h with ⟨c48, h⟩ | ⟨c48, h⟩
    ·have c48_ : v44 = true := c48
     refine AW.condT (b := v44) rfl c48_ ?_
     refine AW.sub (Sub.bool 33 (b := v44) rfl c48_) ?_
     refine AW.sub (S' := mk 37 [] [(0, .d (.pim [.sl (a0.Buffer.map (cI .i64)), .sl (a0.Disk.map (cI .i64)), .sl (a0.DiskLSN.map (cI .i64)), .sl (a0.Log.map cS84), .lit (.int .i64 a0.Flushed), .lit (.int .i64 a0.LastID), .sl (a0.Active.map (cI .i64))])), (1, .i a1), (6, .ptr 6 0 0), (10, .d (.sl (a0.Log.map cS84))), (11, .i (a0.Log.length : Int)), (12, .i v12), (33, .b true)] [(6, some (.box [.i x39.Kind, .i x39.Tx, .i x39.Page, .i x39.Before, .i x39.After]))]) (by simp; exact Sub.table (by simp) (by simp)) ?_
     refine AW.seqR ?_
     refine Chain.runK [] 3 fun K hK => ?_; simp; refine hK _ _ ?_; clear hK K
     refine Chain.sub (S' := mk 37 [] [(4, .i x39.Tx)] []) Sub.tt ?_
     refine Chain.nil ?_
     refine AW.ret ?_
     cases h
     refine blockQ.ret ?_
     refine thenQ_pass (by simp) ?_
     refine PostI.out (by simp) ?_
     rintro rfl
     refine blockQ.ret ?_
     refine PostJ.out (by simp) ?_
     rintro rfl
     refine thenQ_pass (by simp) ?_
     exact FinC.ret (by simp) (by simp)
    ·have c48_ : v44 = false := Bool.eq_false_iff.2 c48
     refine AW.condF (b := v44) rfl c48_ ?_
     refine AW.sub (Sub.bool 33 (b := v44) rfl c48_) ?_
     refine AW.sub (S' := mk 37 [] [(0, .d (.pim [.sl (a0.Buffer.map (cI .i64)), .sl (a0.Disk.map (cI .i64)), .sl (a0.DiskLSN.map (cI .i64)), .sl (a0.Log.map cS84), .lit (.int .i64 a0.Flushed), .lit (.int .i64 a0.LastID), .sl (a0.Active.map (cI .i64))])), (1, .i a1), (6, .ptr 6 0 0), (10, .d (.sl (a0.Log.map cS84))), (11, .i (a0.Log.length : Int)), (12, .i v12), (33, .b false)] [(6, some (.box [.i x39.Kind, .i x39.Tx, .i x39.Page, .i x39.Before, .i x39.After]))]) (by simp; exact Sub.table (by simp) (by simp)) ?_
     refine AW.skip ?_
     refine blockQ.normal ?_
     refine thenQ_normal ?_
     refine AW.region ?_
     replace h := bsome h; obtain ⟨v49, hv49, h⟩ := h
     have hv49 := chkI_some hv49
     refine Chain.runK [] 2 fun K hK => ?_; simp [hv49]; refine hK _ _ ?_; clear hK K
     refine Chain.sub (S' := mk 37 [] [(0, .d (.pim [.sl (a0.Buffer.map (cI .i64)), .sl (a0.Disk.map (cI .i64)), .sl (a0.DiskLSN.map (cI .i64)), .sl (a0.Log.map cS84), .lit (.int .i64 a0.Flushed), .lit (.int .i64 a0.LastID), .sl (a0.Active.map (cI .i64))])), (1, .i a1), (10, .d (.sl (a0.Log.map cS84))), (11, .i (a0.Log.length : Int)), (12, .i v49)] []) Sub.tt ?_
     refine Chain.nil ?_
     cases h
     refine PostI.next ?_
     exact Sub.tt
  ·have c38_ : decide (v12 < (a0.Log.length : Int)) = false := decide_eq_false c38
   refine AW.condF (b := decide (v12 < (a0.Log.length : Int))) rfl c38_ ?_
   refine AW.sub (Sub.bool 13 (b := decide (v12 < (a0.Log.length : Int))) rfl c38_) ?_
   refine AW.sub (S' := mk 37 [] [(0, .d (.pim [.sl (a0.Buffer.map (cI .i64)), .sl (a0.Disk.map (cI .i64)), .sl (a0.DiskLSN.map (cI .i64)), .sl (a0.Log.map cS84), .lit (.int .i64 a0.Flushed), .lit (.int .i64 a0.LastID), .sl (a0.Active.map (cI .i64))])), (1, .i a1), (10, .d (.sl (a0.Log.map cS84))), (11, .i (a0.Log.length : Int)), (12, .i v12), (13, .b false)] []) (by simp; exact Sub.table (by simp) (by simp)) ?_
   refine AW.exit ?_
   cases h
   refine thenQ_pass (by simp) ?_
   refine PostI.out (by simp) ?_
   rintro rfl
   refine blockQ.hit ?_
   refine PostJ.next ?_
   exact Sub.tt
 ·rintro ⟨⟩ h
  refine thenQ_normal ?_
  refine AW.seqR ?_
  refine Chain.runK [] 1 fun K hK => ?_; simp; refine hK _ _ ?_; clear hK K
  refine Chain.sub (S' := mk 37 [] [(4, .i 0)] []) Sub.tt ?_
  refine Chain.nil ?_
  refine AW.ret ?_
  cases h
  exact FinC.ret (by simp) (by simp)

/-- (*stemma/stemref5.Engine).Append -/
def d27 (_N : Nat) (a0 : S56) (a1 : S84) : Option S56 :=
 (appL 40 a0.Log [a1]).bind fun _l1 =>
 if a1.Kind < 3 then (
  (idx a0.Buffer a1.Page).bind fun _x3 =>
  letv (setI a0.Buffer a1.Page a1.After) fun l5 =>
  some (S56.mk l5 a0.Disk a0.DiskLSN (a0.Log ++ [a1]) a0.Flushed a0.LastID a0.Active)
 ) else
 some (S56.mk a0.Buffer a0.Disk a0.DiskLSN (a0.Log ++ [a1]) a0.Flushed a0.LastID a0.Active)
set_option maxRecDepth 100000 in
set_option maxHeartbeats 4000000 in
theorem p27 (N : Nat) (a0 : S56) (a1 : S84) (r : S56) (h : d27 N a0 a1 = some r) : FunM Try.prog 27 [.ptr 1000 0 0, .agg [.i a1.Kind, .i a1.Tx, .i a1.Page, .i a1.Before, .i a1.After]] [(1000, some (.box [.ref 25000 0 a0.Buffer.length, .ref 25001 0 a0.Disk.length, .ref 25002 0 a0.DiskLSN.length, .ref 25003 0 a0.Log.length, .i a0.Flushed, .i a0.LastID, .ref 25006 0 a0.Active.length])), (25000, R3 a0.Buffer), (25001, R3 a0.Disk), (25002, R3 a0.DiskLSN), (25003, R84 a0.Log), (25006, R3 a0.Active)] [1000] (.tup []) ([(1000, (.box [.ref 25000 0 r.Buffer.length, .ref 25001 0 r.Disk.length, .ref 25002 0 r.DiskLSN.length, .ref 25003 0 r.Log.length, .i r.Flushed, .i r.LastID, .ref 25006 0 r.Active.length])), (25000, (.arr 3 1 (r.Buffer.map (cI .i64)))), (25001, (.arr 3 1 (r.Disk.map (cI .i64)))), (25002, (.arr 3 1 (r.DiskLSN.map (cI .i64)))), (25003, (.arr 84 5 (r.Log.map cS84))), (25006, (.arr 3 1 (r.Active.map (cI .i64))))]) := by
 unfold d27 at h
 refine FunM.enter 26 [(0, .ptr 1000 0 0), (1, .agg [.i a1.Kind, .i a1.Tx, .i a1.Page, .i a1.Before, .i a1.After])] Try.func27 rfl (of_decide_eq_true rfl) rfl rfl ?_
 refine AW.seqR ?_
 refine Chain.runK [] 1 fun K hK => ?_; simp; refine hK _ _ ?_; clear hK K
 refine Chain.sub (S' := mk 26 [1000] [(0, .ptr 1000 0 0), (3, .ptr 3 0 0)] [(3, some (.box [.i a1.Kind, .i a1.Tx, .i a1.Page, .i a1.Before, .i a1.After])), (1000, some (.box [.ref 25000 0 a0.Buffer.length, .ref 25001 0 a0.Disk.length, .ref 25002 0 a0.DiskLSN.length, .ref 25003 0 a0.Log.length, .i a0.Flushed, .i a0.LastID, .ref 25006 0 a0.Active.length])), (25000, R3 a0.Buffer), (25001, R3 a0.Disk), (25002, R3 a0.DiskLSN), (25003, R84 a0.Log), (25006, R3 a0.Active)]) Sub.tt ?_
 refine Chain.nil ?_
 replace h := bsome h; obtain ⟨l1, hl1, h⟩ := h
 obtain ⟨hl1a, hl1⟩ := appL_some hl1
 subst hl1
 try simp only [List.length_cons, List.length_nil, Nat.zero_add] at hl1a
 refine AW.seqAnyS [[], [], [1], [1, 2], [1, 2, 3], [], [5], [1, 2, 3, 4, 5, 6], [0, 1, 2, 3, 4, 5, 6, 7], [0, 1, 2, 3, 4, 5, 6, 7, 8], [0, 1, 2, 3, 4, 5, 6, 7, 8, 9]] (fun (b : Nat → Bool) => mk 26 [1000] [(0, .ptr 1000 0 0), (3, .ptr 3 0 0), (4, (if b 0 then .ptr 1000 0 0 else .junk)), (5, (if b 1 then .ptr 1000 0 0 else .junk)), (6, (if b 2 then .ptr 1000 0 0 else .junk)), (7, (if b 3 then .ptr 1000 0 3 else .junk)), (8, (if b 7 then .junk else (if b 4 then .ref 25003 0 a0.Log.length else .junk))), (9, (if b 5 then .agg [.i a1.Kind, .i a1.Tx, .i a1.Page, .i a1.Before, .i a1.After] else .junk)), (10, (if b 6 then .d (.sl ([a1].map cS84)) else .junk)), (11, (if b 7 then .ref 25003 0 ((a0.Log ++ [a1]).length) else .junk)), (12, (if b 8 then .ptr 1000 0 0 else .junk)), (13, (if b 9 then .ptr 1000 0 3 else .junk))] [(3, some (.box [.i a1.Kind, .i a1.Tx, .i a1.Page, .i a1.Before, .i a1.After])), (1000, (if b 10 then some (.box [.ref 25000 0 a0.Buffer.length, .ref 25001 0 a0.Disk.length, .ref 25002 0 a0.DiskLSN.length, .ref 25003 0 ((a0.Log ++ [a1]).length), .i a0.Flushed, .i a0.LastID, .ref 25006 0 a0.Active.length]) else (if b 7 then some (.box [.ref 25000 0 a0.Buffer.length, .ref 25001 0 a0.Disk.length, .ref 25002 0 a0.DiskLSN.length, .hole, .i a0.Flushed, .i a0.LastID, .ref 25006 0 a0.Active.length]) else some (.box [.ref 25000 0 a0.Buffer.length, .ref 25001 0 a0.Disk.length, .ref 25002 0 a0.DiskLSN.length, .ref 25003 0 a0.Log.length, .i a0.Flushed, .i a0.LastID, .ref 25006 0 a0.Active.length])))), (25000, R3 a0.Buffer), (25001, R3 a0.Disk), (25002, R3 a0.DiskLSN), (25003, (if b 7 then R84 (a0.Log ++ [a1]) else R84 a0.Log)), (25006, R3 a0.Active)]) (mk 26 [1000] [(0, .ptr 1000 0 0), (3, .ptr 3 0 0)] [(3, some (.box [.i a1.Kind, .i a1.Tx, .i a1.Page, .i a1.Before, .i a1.After])), (1000, some (.box [.ref 25000 0 a0.Buffer.length, .ref 25001 0 a0.Disk.length, .ref 25002 0 a0.DiskLSN.length, .ref 25003 0 ((a0.Log ++ [a1]).length), .i a0.Flushed, .i a0.LastID, .ref 25006 0 a0.Active.length])), (25000, R3 a0.Buffer), (25001, R3 a0.Disk), (25002, R3 a0.DiskLSN), (25003, R84 (a0.Log ++ [a1])), (25006, R3 a0.Active)]) (by kernel_rfl) (by kernel_rfl) Sub.tt (Steps.cons ?_ (Steps.cons ?_ (Steps.cons ?_ (Steps.cons ?_ (Steps.cons ?_ (Steps.cons ?_ (Steps.cons ?_ (Steps.cons ?_ (Steps.cons ?_ (Steps.cons ?_ (Steps.cons ?_ (Steps.nil)))))))))))) ?_ ?_
 ·intro b h0 ha hd
  have f8 : b 8 = false := hd 8 (by decide)
  have f9 : b 9 = false := hd 9 (by decide)
  have f10 : b 10 = false := hd 10 (by decide)
  refine Chain.runK [10] 1 fun K hK => ?_; simp [h0, f8, f9, f10]; refine hK _ _ ?_; clear hK K
  exact Chain.nil (Sub.table (by simp [f8, f9]) (by simp [f10]))
 ·intro b h0 ha hd
  have f2 : b 2 = false := hd 2 (by decide)
  have f3 : b 3 = false := hd 3 (by decide)
  have f4 : b 4 = false := hd 4 (by decide)
  have f7 : b 7 = false := hd 7 (by decide)
  have f8 : b 8 = false := hd 8 (by decide)
  have f9 : b 9 = false := hd 9 (by decide)
  have f10 : b 10 = false := hd 10 (by decide)
  refine Chain.runK [10] 1 fun K hK => ?_; simp [h0, f2, f3, f4, f7, f8, f9, f10]; refine hK _ _ ?_; clear hK K
  exact Chain.nil (Sub.table (by simp [f2, f3, f4, f7, f8, f9]) (by simp [f7, f10]))
 ·intro b h0 ha hd
  have t1 : b 1 = true := ha 1 (by decide)
  have f3 : b 3 = false := hd 3 (by decide)
  have f4 : b 4 = false := hd 4 (by decide)
  have f7 : b 7 = false := hd 7 (by decide)
  have f8 : b 8 = false := hd 8 (by decide)
  have f9 : b 9 = false := hd 9 (by decide)
  have f10 : b 10 = false := hd 10 (by decide)
  refine Chain.runK [10] 1 fun K hK => ?_; simp [h0, t1, f3, f4, f7, f8, f9, f10]; refine hK _ _ ?_; clear hK K
  exact Chain.nil (Sub.table (by simp [t1, f3, f4, f7, f8, f9]) (by simp [f7, f10]))
 ·intro b h0 ha hd
  have t1 : b 1 = true := ha 1 (by decide)
  have t2 : b 2 = true := ha 2 (by decide)
  have f4 : b 4 = false := hd 4 (by decide)
  have f7 : b 7 = false := hd 7 (by decide)
  have f8 : b 8 = false := hd 8 (by decide)
  have f9 : b 9 = false := hd 9 (by decide)
  have f10 : b 10 = false := hd 10 (by decide)
  refine Chain.runK [10] 1 fun K hK => ?_; simp [h0, t1, t2, f4, f7, f8, f9, f10]; refine hK _ _ ?_; clear hK K
  exact Chain.nil (Sub.table (by simp [t1, t2, f4, f7, f8, f9]) (by simp [f7, f10]))
 ·intro b h0 ha hd
  have t1 : b 1 = true := ha 1 (by decide)
  have t2 : b 2 = true := ha 2 (by decide)
  have t3 : b 3 = true := ha 3 (by decide)
  have f7 : b 7 = false := hd 7 (by decide)
  have f8 : b 8 = false := hd 8 (by decide)
  have f9 : b 9 = false := hd 9 (by decide)
  have f10 : b 10 = false := hd 10 (by decide)
  refine Chain.runK [10] 1 fun K hK => ?_; simp [h0, t1, t2, t3, f7, f8, f9, f10]; refine hK _ _ ?_; clear hK K
  exact Chain.nil (Sub.table (by simp [t1, t2, t3, f7, f8, f9]) (by simp [f7, f10]))
 ·intro b h0 ha hd
  have f6 : b 6 = false := hd 6 (by decide)
  have f7 : b 7 = false := hd 7 (by decide)
  have f8 : b 8 = false := hd 8 (by decide)
  have f9 : b 9 = false := hd 9 (by decide)
  have f10 : b 10 = false := hd 10 (by decide)
  refine Chain.runK [10] 1 fun K hK => ?_; simp [h0, f6, f7, f8, f9, f10]; refine hK _ _ ?_; clear hK K
  exact Chain.nil (Sub.table (by simp [f6, f7, f8, f9]) (by simp [f7, f10]))
 ·intro b h0 ha hd
  have t5 : b 5 = true := ha 5 (by decide)
  have f7 : b 7 = false := hd 7 (by decide)
  have f8 : b 8 = false := hd 8 (by decide)
  have f9 : b 9 = false := hd 9 (by decide)
  have f10 : b 10 = false := hd 10 (by decide)
  refine Chain.runK [10] 1 fun K hK => ?_; simp [h0, t5, f7, f8, f9, f10]; refine hK _ _ ?_; clear hK K
  exact Chain.nil (Sub.table (by simp [t5, f7, f8, f9]) (by simp [f7, f10]))
 ·intro b h0 ha hd
  have t1 : b 1 = true := ha 1 (by decide)
  have t2 : b 2 = true := ha 2 (by decide)
  have t3 : b 3 = true := ha 3 (by decide)
  have t4 : b 4 = true := ha 4 (by decide)
  have t5 : b 5 = true := ha 5 (by decide)
  have t6 : b 6 = true := ha 6 (by decide)
  have f8 : b 8 = false := hd 8 (by decide)
  have f9 : b 9 = false := hd 9 (by decide)
  have f10 : b 10 = false := hd 10 (by decide)
  refine Chain.runK [10] 1 fun K hK => ?_; simp [h0, t1, t2, t3, t4, t5, t6, f8, f9, f10, hl1a]; refine hK _ _ ?_; clear hK K
  exact Chain.nil (Sub.table (by simp [t1, t2, t3, t5, t6, f8, f9]) (by simp [f10]))
 ·intro b h0 ha hd
  have t0 : b 0 = true := ha 0 (by decide)
  have t1 : b 1 = true := ha 1 (by decide)
  have t2 : b 2 = true := ha 2 (by decide)
  have t3 : b 3 = true := ha 3 (by decide)
  have t4 : b 4 = true := ha 4 (by decide)
  have t5 : b 5 = true := ha 5 (by decide)
  have t6 : b 6 = true := ha 6 (by decide)
  have t7 : b 7 = true := ha 7 (by decide)
  have f9 : b 9 = false := hd 9 (by decide)
  have f10 : b 10 = false := hd 10 (by decide)
  refine Chain.runK [10] 1 fun K hK => ?_; simp [h0, t0, t1, t2, t3, t5, t6, t7, f9, f10]; refine hK _ _ ?_; clear hK K
  exact Chain.nil (Sub.table (by simp [t0, t1, t2, t3, t5, t6, t7, f9]) (by simp [t7, f10]))
 ·intro b h0 ha hd
  have t0 : b 0 = true := ha 0 (by decide)
  have t1 : b 1 = true := ha 1 (by decide)
  have t2 : b 2 = true := ha 2 (by decide)
  have t3 : b 3 = true := ha 3 (by decide)
  have t4 : b 4 = true := ha 4 (by decide)
  have t5 : b 5 = true := ha 5 (by decide)
  have t6 : b 6 = true := ha 6 (by decide)
  have t7 : b 7 = true := ha 7 (by decide)
  have t8 : b 8 = true := ha 8 (by decide)
  have f10 : b 10 = false := hd 10 (by decide)
  refine Chain.runK [10] 1 fun K hK => ?_; simp [h0, t0, t1, t2, t3, t5, t6, t7, t8, f10]; refine hK _ _ ?_; clear hK K
  exact Chain.nil (Sub.table (by simp [t0, t1, t2, t3, t5, t6, t7, t8]) (by simp [t7, f10]))
 ·intro b h0 ha hd
  have t0 : b 0 = true := ha 0 (by decide)
  have t1 : b 1 = true := ha 1 (by decide)
  have t2 : b 2 = true := ha 2 (by decide)
  have t3 : b 3 = true := ha 3 (by decide)
  have t4 : b 4 = true := ha 4 (by decide)
  have t5 : b 5 = true := ha 5 (by decide)
  have t6 : b 6 = true := ha 6 (by decide)
  have t7 : b 7 = true := ha 7 (by decide)
  have t8 : b 8 = true := ha 8 (by decide)
  have t9 : b 9 = true := ha 9 (by decide)
  refine Chain.runK [10] 1 fun K hK => ?_; simp [h0, t0, t1, t2, t3, t5, t6, t7, t8, t9]; refine hK _ _ ?_; clear hK K
  exact Chain.nil (Sub.table (by simp [t0, t1, t2, t3, t5, t6, t7, t8, t9]) (by simp [t7]))
 ·intro b hb
  have t0 := hb 0 (by decide)
  have t1 := hb 1 (by decide)
  have t2 := hb 2 (by decide)
  have t3 := hb 3 (by decide)
  have t4 := hb 4 (by decide)
  have t5 := hb 5 (by decide)
  have t6 := hb 6 (by decide)
  have t7 := hb 7 (by decide)
  have t8 := hb 8 (by decide)
  have t9 := hb 9 (by decide)
  have t10 := hb 10 (by decide)
  exact Sub.table (by simp [t0, t1, t2, t3, t5, t6, t7, t8, t9]) (by simp [t7, t10])
 ·skip
  refine AW.seqR ?_
  refine Chain.runK [] 3 fun K hK => ?_; simp; refine hK _ _ ?_; clear hK K
  refine Chain.sub (S' := mk 26 [1000] [(0, .ptr 1000 0 0), (3, .ptr 3 0 0), (16, .b (decide (a1.Kind < 3)))] [(3, some (.box [.i a1.Kind, .i a1.Tx, .i a1.Page, .i a1.Before, .i a1.After])), (1000, some (.box [.ref 25000 0 a0.Buffer.length, .ref 25001 0 a0.Disk.length, .ref 25002 0 a0.DiskLSN.length, .ref 25003 0 ((a0.Log ++ [a1]).length), .i a0.Flushed, .i a0.LastID, .ref 25006 0 a0.Active.length])), (25000, R3 a0.Buffer), (25001, R3 a0.Disk), (25002, R3 a0.DiskLSN), (25003, R84 (a0.Log ++ [a1])), (25006, R3 a0.Active)]) Sub.tt ?_
  refine Chain.nil ?_
  replace h := isome h; rcases h with ⟨c2, h⟩ | ⟨c2, h⟩
  ·have c2_ : decide (a1.Kind < 3) = true := decide_eq_true c2
   refine AW.condT (b := decide (a1.Kind < 3)) rfl c2_ ?_
   refine AW.sub (Sub.bool 16 (b := decide (a1.Kind < 3)) rfl c2_) ?_
   refine AW.sub (S' := mk 26 [1000] [(0, .ptr 1000 0 0), (3, .ptr 3 0 0), (16, .b true)] [(3, some (.box [.i a1.Kind, .i a1.Tx, .i a1.Page, .i a1.Before, .i a1.After])), (1000, some (.box [.ref 25000 0 a0.Buffer.length, .ref 25001 0 a0.Disk.length, .ref 25002 0 a0.DiskLSN.length, .ref 25003 0 ((a0.Log ++ [a1]).length), .i a0.Flushed, .i a0.LastID, .ref 25006 0 a0.Active.length])), (25000, R3 a0.Buffer), (25001, R3 a0.Disk), (25002, R3 a0.DiskLSN), (25003, R84 (a0.Log ++ [a1])), (25006, R3 a0.Active)]) (by simp; exact Sub.table (by simp) (by simp)) ?_
   replace h := bsome h; obtain ⟨x3, hx3, h⟩ := h
   obtain ⟨k4, hx3k, hx3, hx3a, hx3b⟩ := idx_some hx3
   refine AW.regionT 9 (by kernel_rfl) (by kernel_rfl) fun K hK => ?_; simp [hx3k, hx3a, hx3b]; refine hK _ _ ?_; clear hK K
   refine Chain.sub (S' := mk 26 [1000] [(24, .i a1.After), (25, .ptr 25000 k4 0)] [(1000, some (.box [.ref 25000 0 a0.Buffer.length, .ref 25001 0 a0.Disk.length, .ref 25002 0 a0.DiskLSN.length, .ref 25003 0 ((a0.Log ++ [a1]).length), .i a0.Flushed, .i a0.LastID, .ref 25006 0 a0.Active.length])), (25000, R3 a0.Buffer), (25001, R3 a0.Disk), (25002, R3 a0.DiskLSN), (25003, R84 (a0.Log ++ [a1])), (25006, R3 a0.Active)]) Sub.tt ?_
   replace h := lsome h; obtain ⟨l5, gl5, h⟩ := h
   obtain ⟨hl5, hl5n⟩ := setI_some (cI .i64) gl5 hx3k
   replace hl5 : (a0.Buffer.map (cI .i64)).set k4 [.lit (.int .i64 a1.After)] = l5.map (cI .i64) := hl5
   clear gl5
   refine Chain.runK [] 1 fun K hK => ?_; simp [hx3, hl5]; refine hK _ _ ?_; clear hK K
   refine Chain.sub (S' := mk 26 [1000] [] [(1000, some (.box [.ref 25000 0 l5.length, .ref 25001 0 a0.Disk.length, .ref 25002 0 a0.DiskLSN.length, .ref 25003 0 ((a0.Log ++ [a1]).length), .i a0.Flushed, .i a0.LastID, .ref 25006 0 a0.Active.length])), (25000, R3 l5), (25001, R3 a0.Disk), (25002, R3 a0.DiskLSN), (25003, R84 (a0.Log ++ [a1])), (25006, R3 a0.Active)]) (Sub.table (by simp) (by simp [hl5n])) ?_
   refine Chain.nil ?_
   cases h
   exact FinF.normal (by simp) (by simp)
  ·have c2_ : decide (a1.Kind < 3) = false := decide_eq_false c2
   refine AW.condF (b := decide (a1.Kind < 3)) rfl c2_ ?_
   refine AW.sub (Sub.bool 16 (b := decide (a1.Kind < 3)) rfl c2_) ?_
   refine AW.sub (S' := mk 26 [1000] [(0, .ptr 1000 0 0), (3, .ptr 3 0 0), (16, .b false)] [(3, some (.box [.i a1.Kind, .i a1.Tx, .i a1.Page, .i a1.Before, .i a1.After])), (1000, some (.box [.ref 25000 0 a0.Buffer.length, .ref 25001 0 a0.Disk.length, .ref 25002 0 a0.DiskLSN.length, .ref 25003 0 ((a0.Log ++ [a1]).length), .i a0.Flushed, .i a0.LastID, .ref 25006 0 a0.Active.length])), (25000, R3 a0.Buffer), (25001, R3 a0.Disk), (25002, R3 a0.DiskLSN), (25003, R84 (a0.Log ++ [a1])), (25006, R3 a0.Active)]) (by simp; exact Sub.table (by simp) (by simp)) ?_
   refine AW.skip ?_
   cases h
   exact FinF.normal (by simp) (by simp)

/-- (*stemma/recovery.Engine).finish$1 -/
def d46 (_N : Nat) (a0 : Int) (a1 : Int) : Option Bool :=
 some (a0 == a1)
set_option maxRecDepth 100000 in
set_option maxHeartbeats 4000000 in
theorem p46 (N : Nat) (a0 : Int) (a1 : Int) (r : Bool) (h : d46 N a0 a1 = some r) : FunC Try.prog 46 [.i a0, .d (.pim [.lit (.int .i64 a1)])] (.b r) := by
 unfold d46 at h
 refine FunC.enter 7 [(0, .i a0), (1, .d (.pim [.lit (.int .i64 a1)]))] (by simp) Try.func46 rfl (of_decide_eq_true rfl) rfl rfl ?_
 refine AW.seqR ?_
 refine Chain.runK [] 1 fun K hK => ?_; simp; refine hK _ _ ?_; clear hK K
 refine Chain.sub (S' := mk 7 [] [(0, .i a0), (1, .d (.pim [.lit (.int .i64 a1)]))] []) Sub.tt ?_
 refine Chain.nil ?_
 refine AW.seqR ?_
 refine Chain.runK [] 4 fun K hK => ?_; simp; refine hK _ _ ?_; clear hK K
 refine Chain.sub (S' := mk 7 [] [(3, .b (a0 == a1))] []) Sub.tt ?_
 refine Chain.nil ?_
 refine AW.ret ?_
 cases h
 exact FinC.ret (by simp) (by simp)

/-- slices.IndexFunc[[]int,int] -/
def d43 (N : Nat) (a0 : (List Int)) (p1 : Int → Option Bool) : Option Int :=
 bindO (β := Unit) (ρ := Int) (
  iterN (σ := Int) (ρ := (Out Unit Int)) (fun (v6 : Int) =>
   if v6 < (a0.length : Int) then (
    (idx a0 v6).bind fun x21 =>
    (p1 x21).bind fun r23 =>
    if r23 = true then (
     some (.inr (.ret v6))
    ) else
    (chkI (v6 + 1)).bind fun v25 =>
    some (.inl v25)
   ) else
   some (.inr (.go ()))
  ) N 0
 ) fun (_ : Unit) =>
 some (-1)
set_option maxRecDepth 100000 in
set_option maxHeartbeats 4000000 in
theorem p43 (N : Nat) (a0 : (List Int)) (g1 : Nat) (cs1 : List D) (p1 : Int → Option Bool) (ent_1 : Rp.Enters Try.prog g1) (hp1 : ∀ a0 r, p1 a0 = some r → FunC Try.prog g1 ([.i a0] ++ cs1.map .d) (.b r)) (r : Int) (h : d43 N a0 p1 = some r) : FunC Try.prog 43 [.d (.sl (a0.map (cI .i64))), .fn (.func g1) (cs1.map .d)] (.i r) := by
 unfold d43 at h
 refine FunC.enter 19 [(0, .d (.sl (a0.map (cI .i64)))), (1, .fn (.func g1) (cs1.map .d))] (by simp) Try.func43 rfl (of_decide_eq_true rfl) rfl rfl ?_
 refine AW.seqR ?_
 refine Chain.runK [] 1 fun K hK => ?_; simp; refine hK _ _ ?_; clear hK K
 refine Chain.sub (S' := mk 19 [] [(0, .d (.sl (a0.map (cI .i64)))), (1, .fn (.func g1) (cs1.map .d))] []) Sub.tt ?_
 refine Chain.nil ?_
 refine AW.seq ?_
 refine AW.seqR ?_
 refine Chain.runK [] 3 fun K hK => ?_; simp; refine hK _ _ ?_; clear hK K
 refine Chain.sub (S' := mk 19 [] [(0, .d (.sl (a0.map (cI .i64)))), (1, .fn (.func g1) (cs1.map .d)), (7, .i (a0.length : Int)), (8, .i 0)] []) Sub.tt ?_
 refine Chain.nil ?_
 refine AW.lastJ (fun (_ : Unit) => mk 19 [] [] []) h ?_ ?_ <;> clear h
 ·intro o h
  refine AW.block ?_
  refine AW.iter (fun (v6 : Int) => mk 19 [] [(0, .d (.sl (a0.map (cI .i64)))), (1, .fn (.func g1) (cs1.map .d)), (7, .i (a0.length : Int)), (8, .i v6)] []) h Sub.tt ?_
  clear h
  rintro v6 x h
  refine AW.seqR ?_
  refine Chain.runK [] 1 fun K hK => ?_; simp; refine hK _ _ ?_; clear hK K
  refine Chain.sub (S' := mk 19 [] [(0, .d (.sl (a0.map (cI .i64)))), (1, .fn (.func g1) (cs1.map .d)), (7, .i (a0.length : Int)), (8, .i v6), (9, .b (decide (v6 < (a0.length : Int))))] []) Sub.tt ?_
  refine Chain.nil ?_
  refine AW.seq ?_
  replace h := isome h; rcases h with ⟨c20, h⟩ | ⟨c20, h⟩
  ·have c20_ : decide (v6 < (a0.length : Int)) = true := decide_eq_true c20
   refine AW.condT (b := decide (v6 < (a0.length : Int))) rfl c20_ ?_
   refine AW.sub (Sub.bool 9 (b := decide (v6 < (a0.length : Int))) rfl c20_) ?_
   refine AW.sub (S' := mk 19 [] [(0, .d (.sl (a0.map (cI .i64)))), (1, .fn (.func g1) (cs1.map .d)), (7, .i (a0.length : Int)), (8, .i v6), (9, .b true)] []) (by simp; exact Sub.table (by simp) (by simp)) ?_
   refine AW.skip ?_
   refine thenQ_normal ?_
   refine AW.seq ?_
   refine AW.block ?_
   refine AW.seqR ?_
   refine Chain.runK [] 2 fun K hK => ?_; simp; refine hK _ _ ?_; clear hK K
   refine Chain.sub (S' := mk 19 [] [(0, .d (.sl (a0.map (cI .i64)))), (1, .fn (.func g1) (cs1.map .d)), (5, .i v6), (7, .i (a0.length : Int)), (8, .i v6)] []) Sub.tt ?_
   refine Chain.nil ?_
   refine AW.seqR ?_
   replace h := bsome h; obtain ⟨x21, hx21, h⟩ := h
   obtain ⟨k22, hx21k, hx21, hx21a, hx21b⟩ := idx_some hx21
   refine Chain.runK [] 5 fun K hK => ?_; simp [hx21, hx21k, hx21a]; refine hK _ _ ?_; clear hK K
   refine Chain.sub (S' := mk 19 [] [(0, .d (.sl (a0.map (cI .i64)))), (1, .fn (.func g1) (cs1.map .d)), (5, .i v6), (7, .i (a0.length : Int)), (8, .i v6), (11, .fn (.func g1) (cs1.map .d)), (15, .i x21)] []) Sub.tt ?_
   replace h := bsome h; obtain ⟨r23, hr23, h⟩ := h
   refine Chain.callL (d := 16) (hp1 x21 r23 hr23) (by simp) rfl rfl (by simp <;> rfl) (by simp <;> rfl) ent_1 (by simp <;> rfl) ?_
   refine Chain.sub (S' := mk 19 [] [(0, .d (.sl (a0.map (cI .i64)))), (1, .fn (.func g1) (cs1.map .d)), (5, .i v6), (7, .i (a0.length : Int)), (8, .i v6), (11, .fn (.func g1) (cs1.map .d)), (15, .i x21), (16, .b r23)] []) (by simp; exact Sub.table (by simp) (by simp)) ?_
   refine Chain.nil ?_
   replace h := isome h; rcases h with ⟨c24, h⟩ | ⟨c24, h⟩
   ·have c24_ : r23 = true := c24
    refine AW.condT (b := r23) rfl c24_ ?_
    refine AW.sub (Sub.bool 16 (b := r23) rfl c24_) ?_
    refine AW.sub (S' := mk 19 [] [(0, .d (.sl (a0.map (cI .i64)))), (1, .fn (.func g1) (cs1.map .d)), (5, .i v6), (7, .i (a0.length : Int)), (8, .i v6), (11, .fn (.func g1) (cs1.map .d)), (15, .i x21), (16, .b true)] []) (by simp; exact Sub.table (by simp) (by simp)) ?_
    refine AW.seqR ?_
    refine Chain.runK [] 2 fun K hK => ?_; simp; refine hK _ _ ?_; clear hK K
    refine Chain.sub (S' := mk 19 [] [(4, .i v6)] []) Sub.tt ?_
    refine Chain.nil ?_
    refine AW.ret ?_
    cases h
    refine blockQ.ret ?_
    refine thenQ_pass (by simp) ?_
    refine PostI.out (by simp) ?_
    rintro rfl
    refine blockQ.ret ?_
    refine PostJ.out (by simp) ?_
    rintro rfl
    refine thenQ_pass (by simp) ?_
    exact FinC.ret (by simp) (by simp)
   ·have c24_ : r23 = false := Bool.eq_false_iff.2 c24
    refine AW.condF (b := r23) rfl c24_ ?_
    refine AW.sub (Sub.bool 16 (b := r23) rfl c24_) ?_
    refine AW.sub (S' := mk 19 [] [(0, .d (.sl (a0.map (cI .i64)))), (1, .fn (.func g1) (cs1.map .d)), (5, .i v6), (7, .i (a0.length : Int)), (8, .i v6), (11, .fn (.func g1) (cs1.map .d)), (15, .i x21), (16, .b false)] []) (by simp; exact Sub.table (by simp) (by simp)) ?_
    refine AW.skip ?_
    refine blockQ.normal ?_
    refine thenQ_normal ?_
    refine AW.region ?_
    replace h := bsome h; obtain ⟨v25, hv25, h⟩ := h
    have hv25 := chkI_some hv25
    refine Chain.runK [] 2 fun K hK => ?_; simp [hv25]; refine hK _ _ ?_; clear hK K
    refine Chain.sub (S' := mk 19 [] [(0, .d (.sl (a0.map (cI .i64)))), (1, .fn (.func g1) (cs1.map .d)), (7, .i (a0.length : Int)), (8, .i v25)] []) Sub.tt ?_
    refine Chain.nil ?_
    cases h
    refine PostI.next ?_
    exact Sub.tt
  ·have c20_ : decide (v6 < (a0.length : Int)) = false := decide_eq_false c20
   refine AW.condF (b := decide (v6 < (a0.length : Int))) rfl c20_ ?_
   refine AW.sub (Sub.bool 9 (b := decide (v6 < (a0.length : Int))) rfl c20_) ?_
   refine AW.sub (S' := mk 19 [] [(0, .d (.sl (a0.map (cI .i64)))), (1, .fn (.func g1) (cs1.map .d)), (7, .i (a0.length : Int)), (8, .i v6), (9, .b false)] []) (by simp; exact Sub.table (by simp) (by simp)) ?_
   refine AW.exit ?_
   cases h
   refine thenQ_pass (by simp) ?_
   refine PostI.out (by simp) ?_
   rintro rfl
   refine blockQ.hit ?_
   refine PostJ.next ?_
   exact Sub.tt
 ·rintro ⟨⟩ h
  refine thenQ_normal ?_
  refine AW.seqR ?_
  refine Chain.runK [] 1 fun K hK => ?_; simp; refine hK _ _ ?_; clear hK K
  refine Chain.sub (S' := mk 19 [] [(4, .i (-1))] []) Sub.tt ?_
  refine Chain.nil ?_
  refine AW.ret ?_
  cases h
  exact FinC.ret (by simp) (by simp)

/-- slices.DeleteFunc[[]int,int] -/
def d31 (N : Nat) (a0 : (List Int)) (p1 : Int → Option Bool) : Option (List Int) :=
 (d43 N a0 p1).bind fun r1 =>
 if (r1 == (-1)) then (
  some a0
 ) else
 (chkI (r1 + 1)).bind fun v3 =>
 Option.bind (α := ((List Int) × Int)) (
  iterN (σ := ((List Int) × Int × Int)) (ρ := ((List Int) × Int)) (fun ((l15, v16, v17) : ((List Int) × Int × Int)) =>
   if v17 < (l15.length : Int) then (
    (idx l15 v17).bind fun x46 =>
    (p1 x46).bind fun r48 =>
    if (!r48) = true then (
     (idx l15 v16).bind fun _x50 =>
     letv (setI l15 v16 x46) fun l52 =>
     (chkI (v16 + 1)).bind fun v53 =>
     (chkI (v17 + 1)).bind fun v54 =>
     some (.inl (l52, v53, v54))
    ) else
    (chkI (v17 + 1)).bind fun v55 =>
    some (.inl (l15, v16, v55))
   ) else
   some (.inr (l15, v16))
  ) N (a0, r1, v3)
 ) fun ((l43, v44) : ((List Int) × Int)) =>
 (natI v44 l43.length).bind fun n56 =>
 (posN (l43.length - n56)).bind fun _ =>
 letv (l43.take n56 ++ (List.replicate (l43.length - n56) 0 ++ l43.drop (n56 + (l43.length - n56)))) fun l57 =>
 (natI (n56 : Int) l57.length).bind fun n58 =>
 letv (l57.take n58) fun l59 =>
 some l59
set_option maxRecDepth 100000 in
set_option maxHeartbeats 4000000 in
theorem p31 (N : Nat) (a0 : (List Int)) (g1 : Nat) (cs1 : List D) (p1 : Int → Option Bool) (ent_1 : Rp.Enters Try.prog g1) (hp1 : ∀ a0 r, p1 a0 = some r → FunC Try.prog g1 ([.i a0] ++ cs1.map .d) (.b r)) (r : (List Int)) (h : d31 N a0 p1 = some r) : FunM Try.prog 31 [.ref 1000 0 a0.length, .fn (.func g1) (cs1.map .d)] [(1000, R3 a0)] [1000] (.ref 1000 0 r.length) ([(1000, .arr 3 1 (r.map (cI .i64)))]) := by
 unfold d31 at h
 refine FunM.enter 42 [(0, .ref 1000 0 a0.length), (1, .fn (.func g1) (cs1.map .d))] Try.func31 rfl (of_decide_eq_true rfl) rfl rfl ?_
 refine AW.seqR ?_
 refine Chain.runK [] 1 fun K hK => ?_; simp; refine hK _ _ ?_; clear hK K
 refine Chain.sub (S' := mk 42 [1000] [(0, .ref 1000 0 a0.length), (1, .fn (.func g1) (cs1.map .d))] [(1000, R3 a0)]) Sub.tt ?_
 refine Chain.nil ?_
 refine AW.seqR ?_
 refine Chain.runK [] 2 fun K hK => ?_; simp; refine hK _ _ ?_; clear hK K
 refine Chain.sub (S' := mk 42 [1000] [(0, .ref 1000 0 a0.length), (1, .fn (.func g1) (cs1.map .d)), (8, .ref 1000 0 a0.length), (9, .fn (.func g1) (cs1.map .d))] [(1000, R3 a0)]) Sub.tt ?_
 replace h := bsome h; obtain ⟨r1, hr1, h⟩ := h
 refine Chain.callL (d := 10) (p43 N a0 g1 cs1 p1 ent_1 hp1 r1 hr1) (by simp) rfl rfl (by simp <;> rfl) (by simp <;> rfl) ent43 (by simp <;> rfl) ?_
 refine Chain.sub (S' := mk 42 [1000] [(0, .ref 1000 0 a0.length), (1, .fn (.func g1) (cs1.map .d)), (8, .ref 1000 0 a0.length), (9, .fn (.func g1) (cs1.map .d)), (10, .i r1)] [(1000, R3 a0)]) (by simp; exact Sub.table (by simp) (by simp)) ?_
 refine Chain.runK [] 1 fun K hK => ?_; simp; refine hK _ _ ?_; clear hK K
 refine Chain.sub (S' := mk 42 [1000] [(0, .ref 1000 0 a0.length), (1, .fn (.func g1) (cs1.map .d)), (5, .i r1)] [(1000, R3 a0)]) Sub.tt ?_
 refine Chain.nil ?_
 refine AW.seq ?_
 refine AW.seqR ?_
 refine Chain.runK [] 2 fun K hK => ?_; simp; refine hK _ _ ?_; clear hK K
 refine Chain.sub (S' := mk 42 [1000] [(0, .ref 1000 0 a0.length), (1, .fn (.func g1) (cs1.map .d)), (5, .i r1), (12, .b (r1 == (-1)))] [(1000, R3 a0)]) Sub.tt ?_
 refine Chain.nil ?_
 replace h := isome h; rcases h with ⟨c2, h⟩ | ⟨c2, h⟩
 ·have c2_ : (r1 == (-1)) = true := c2
  refine AW.condT (b := (r1 == (-1))) rfl c2_ ?_
  refine AW.sub (Sub.bool 12 (b := (r1 == (-1))) rfl c2_) ?_
  refine AW.sub (S' := mk 42 [1000] [(0, .ref 1000 0 a0.length), (1, .fn (.func g1) (cs1.map .d)), (5, .i r1), (12, .b true)] [(1000, R3 a0)]) (by simp; exact Sub.table (by simp) (by simp)) ?_
  refine AW.seqR ?_
  refine Chain.runK [] 2 fun K hK => ?_; simp; refine hK _ _ ?_; clear hK K
  refine Chain.sub (S' := mk 42 [1000] [(4, .ref 1000 0 a0.length)] [(1000, R3 a0)]) Sub.tt ?_
  refine Chain.nil ?_
  refine AW.ret ?_
  cases h
  refine thenQ_pass (by simp) ?_
  exact FinF.ret (by simp) (by simp)
 ·have c2_ : (r1 == (-1)) = false := Bool.eq_false_iff.2 c2
  refine AW.condF (b := (r1 == (-1))) rfl c2_ ?_
  refine AW.sub (Sub.bool 12 (b := (r1 == (-1))) rfl c2_) ?_
  refine AW.sub (S' := mk 42 [1000] [(0, .ref 1000 0 a0.length), (1, .fn (.func g1) (cs1.map .d)), (5, .i r1), (12, .b false)] [(1000, R3 a0)]) (by simp; exact Sub.table (by simp) (by simp)) ?_
  refine AW.skip ?_
  refine thenQ_normal ?_
  refine AW.seq ?_
  refine AW.seqR ?_
  replace h := bsome h; obtain ⟨v3, hv3, h⟩ := h
  have hv3 := chkI_some hv3
  refine Chain.runK [] 3 fun K hK => ?_; simp [hv3]; refine hK _ _ ?_; clear hK K
  refine Chain.sub (S' := mk 42 [1000] [(0, .ref 1000 0 a0.length), (1, .fn (.func g1) (cs1.map .d)), (5, .i r1), (6, .i v3)] [(1000, R3 a0)]) Sub.tt ?_
  refine Chain.nil ?_
  refine AW.lastN (fun ((l43, v44) : ((List Int) × Int)) => mk 42 [1000] [(0, .ref 1000 0 l43.length), (5, .i v44)] [(1000, R3 l43)]) h ?_ ?_ <;> clear h
  ·intro o h
   refine AW.block ?_
   refine AW.iter (fun ((l15, v16, v17) : ((List Int) × Int × Int)) => mk 42 [1000] [(0, .ref 1000 0 l15.length), (1, .fn (.func g1) (cs1.map .d)), (5, .i v16), (6, .i v17)] [(1000, R3 l15)]) h Sub.tt ?_
   clear h
   rintro ⟨l15, v16, v17⟩ x h
   dsimp only at h ⊢
   refine AW.seq ?_
   refine AW.seqR ?_
   refine Chain.runK [] 4 fun K hK => ?_; simp; refine hK _ _ ?_; clear hK K
   refine Chain.sub (S' := mk 42 [1000] [(0, .ref 1000 0 l15.length), (1, .fn (.func g1) (cs1.map .d)), (5, .i v16), (6, .i v17), (19, .b (decide (v17 < (l15.length : Int))))] [(1000, R3 l15)]) Sub.tt ?_
   refine Chain.nil ?_
   replace h := isome h; rcases h with ⟨c45, h⟩ | ⟨c45, h⟩
   ·have c45_ : decide (v17 < (l15.length : Int)) = true := decide_eq_true c45
    refine AW.condT (b := decide (v17 < (l15.length : Int))) rfl c45_ ?_
    refine AW.sub (Sub.bool 19 (b := decide (v17 < (l15.length : Int))) rfl c45_) ?_
    refine AW.sub (S' := mk 42 [1000] [(0, .ref 1000 0 l15.length), (1, .fn (.func g1) (cs1.map .d)), (5, .i v16), (6, .i v17), (19, .b true)] [(1000, R3 l15)]) (by simp; exact Sub.table (by simp) (by simp)) ?_
    refine AW.skip ?_
    refine thenQ_normal ?_
    refine AW.seq ?_
    refine AW.block ?_
    refine AW.seqR ?_
    replace h := bsome h; obtain ⟨x46, hx46, h⟩ := h
    obtain ⟨k47, hx46k, hx46, hx46a, hx46b⟩ := idx_some hx46
    refine Chain.runK [] 5 fun K hK => ?_; simp [hx46, hx46k, hx46a, hx46b]; refine hK _ _ ?_; clear hK K
    refine Chain.sub (S' := mk 42 [1000] [(0, .ref 1000 0 l15.length), (1, .fn (.func g1) (cs1.map .d)), (5, .i v16), (6, .i v17), (7, .i x46)] [(1000, R3 l15)]) Sub.tt ?_
    refine Chain.nil ?_
    refine AW.seqR ?_
    refine Chain.runK [] 2 fun K hK => ?_; simp; refine hK _ _ ?_; clear hK K
    refine Chain.sub (S' := mk 42 [1000] [(0, .ref 1000 0 l15.length), (1, .fn (.func g1) (cs1.map .d)), (5, .i v16), (6, .i v17), (7, .i x46), (26, .fn (.func g1) (cs1.map .d)), (27, .i x46)] [(1000, R3 l15)]) Sub.tt ?_
    replace h := bsome h; obtain ⟨r48, hr48, h⟩ := h
    refine Chain.callL (d := 28) (hp1 x46 r48 hr48) (by simp) rfl rfl (by simp <;> rfl) (by simp <;> rfl) ent_1 (by simp <;> rfl) ?_
    refine Chain.sub (S' := mk 42 [1000] [(0, .ref 1000 0 l15.length), (1, .fn (.func g1) (cs1.map .d)), (5, .i v16), (6, .i v17), (7, .i x46), (26, .fn (.func g1) (cs1.map .d)), (27, .i x46), (28, .b r48)] [(1000, R3 l15)]) (by simp; exact Sub.table (by simp) (by simp)) ?_
    refine Chain.runK [] 1 fun K hK => ?_; simp; refine hK _ _ ?_; clear hK K
    refine Chain.sub (S' := mk 42 [1000] [(0, .ref 1000 0 l15.length), (1, .fn (.func g1) (cs1.map .d)), (5, .i v16), (6, .i v17), (7, .i x46), (29, .b (!r48))] [(1000, R3 l15)]) Sub.tt ?_
    refine Chain.nil ?_
    replace h := isome h; rcases h with ⟨c49, h⟩ | ⟨c49, h⟩
    ·have c49_ : (!r48) = true := c49
     refine AW.condT (b := (!r48)) rfl c49_ ?_
     refine AW.sub (Sub.bool 29 (b := (!r48)) rfl c49_) ?_
     refine AW.sub (S' := mk 42 [1000] [(0, .ref 1000 0 l15.length), (1, .fn (.func g1) (cs1.map .d)), (5, .i v16), (6, .i v17), (7, .i x46), (29, .b true)] [(1000, R3 l15)]) (by simp; exact Sub.table (by simp) (by simp)) ?_
     refine AW.seqR ?_
     replace h := bsome h; obtain ⟨x50, hx50, h⟩ := h
     obtain ⟨k51, hx50k, hx50, hx50a, hx50b⟩ := idx_some hx50
     replace h := lsome h; obtain ⟨l52, gl52, h⟩ := h
     obtain ⟨hl52, hl52n⟩ := setI_some (cI .i64) gl52 hx50k
     replace hl52 : (l15.map (cI .i64)).set k51 [.lit (.int .i64 x46)] = l52.map (cI .i64) := hl52
     clear gl52
     refine Chain.runK [] 5 fun K hK => ?_; simp [hx50, hx50k, hx50a, hx50b, hl52]; refine hK _ _ ?_; clear hK K
     refine Chain.sub (S' := mk 42 [1000] [(0, .ref 1000 0 l52.length), (1, .fn (.func g1) (cs1.map .d)), (5, .i v16), (6, .i v17)] [(1000, R3 l52)]) (Sub.table (by simp [hl52n]) (by simp)) ?_
     refine Chain.nil ?_
     refine AW.region ?_
     replace h := bsome h; obtain ⟨v53, hv53, h⟩ := h
     have hv53 := chkI_some hv53
     refine Chain.runK [] 3 fun K hK => ?_; simp [hv53]; refine hK _ _ ?_; clear hK K
     refine Chain.sub (S' := mk 42 [1000] [(0, .ref 1000 0 l52.length), (1, .fn (.func g1) (cs1.map .d)), (5, .i v53), (6, .i v17)] [(1000, R3 l52)]) Sub.tt ?_
     refine Chain.nil ?_
     refine blockQ.normal ?_
     refine thenQ_normal ?_
     refine AW.region ?_
     replace h := bsome h; obtain ⟨v54, hv54, h⟩ := h
     have hv54 := chkI_some hv54
     refine Chain.runK [] 3 fun K hK => ?_; simp [hv54]; refine hK _ _ ?_; clear hK K
     refine Chain.sub (S' := mk 42 [1000] [(0, .ref 1000 0 l52.length), (1, .fn (.func g1) (cs1.map .d)), (5, .i v53), (6, .i v54)] [(1000, R3 l52)]) Sub.tt ?_
     refine Chain.nil ?_
     cases h
     refine PostI.next ?_
     exact Sub.tt
    ·have c49_ : (!r48) = false := Bool.eq_false_iff.2 c49
     refine AW.condF (b := (!r48)) rfl c49_ ?_
     refine AW.sub (Sub.bool 29 (b := (!r48)) rfl c49_) ?_
     refine AW.sub (S' := mk 42 [1000] [(0, .ref 1000 0 l15.length), (1, .fn (.func g1) (cs1.map .d)), (5, .i v16), (6, .i v17), (7, .i x46), (29, .b false)] [(1000, R3 l15)]) (by simp; exact Sub.table (by simp) (by simp)) ?_
     refine AW.skip ?_
     refine blockQ.normal ?_
     refine thenQ_normal ?_
     refine AW.region ?_
     replace h := bsome h; obtain ⟨v55, hv55, h⟩ := h
     have hv55 := chkI_some hv55
     refine Chain.runK [] 3 fun K hK => ?_; simp [hv55]; refine hK _ _ ?_; clear hK K
     refine Chain.sub (S' := mk 42 [1000] [(0, .ref 1000 0 l15.length), (1, .fn (.func g1) (cs1.map .d)), (5, .i v16), (6, .i v55)] [(1000, R3 l15)]) Sub.tt ?_
     refine Chain.nil ?_
     cases h
     refine PostI.next ?_
     exact Sub.tt
   ·have c45_ : decide (v17 < (l15.length : Int)) = false := decide_eq_false c45
    refine AW.condF (b := decide (v17 < (l15.length : Int))) rfl c45_ ?_
    refine AW.sub (Sub.bool 19 (b := decide (v17 < (l15.length : Int))) rfl c45_) ?_
    refine AW.sub (S' := mk 42 [1000] [(0, .ref 1000 0 l15.length), (1, .fn (.func g1) (cs1.map .d)), (5, .i v16), (6, .i v17), (19, .b false)] [(1000, R3 l15)]) (by simp; exact Sub.table (by simp) (by simp)) ?_
    refine AW.exit ?_
    cases h
    refine thenQ_pass (by simp) ?_
    refine PostI.out (by simp) ?_
    rintro rfl
    refine blockQ.hit ?_
    refine PostN.next ?_
    exact Sub.tt
  ·rintro ⟨l43, v44⟩ h
   dsimp only at h ⊢
   refine thenQ_normal ?_
   refine AW.seqR ?_
   replace h := bsome h; obtain ⟨n56, gn56, h⟩ := h
   obtain ⟨hn56a, hn56⟩ := natI_some gn56
   clear gn56
   subst hn56a
   refine Chain.runK [] 3 fun K hK => ?_; simp [hn56]; refine hK _ _ ?_; clear hK K
   refine Chain.sub (S' := mk 42 [1000] [(0, .ref 1000 0 l43.length), (5, .i (n56 : Int)), (38, .ref 1000 n56 (l43.length - n56))] [(1000, R3 l43)]) Sub.tt ?_
   replace h := bsome h; obtain ⟨ql57, pl57, h⟩ := h
   replace pl57 := posN_some pl57
   replace h := lsome h; obtain ⟨l57, gl57, h⟩ := h
   have hl57 : (l43.map (cI .i64)).take n56 ++ (List.replicate (l43.length - n56) [.lit (.int .i64 0)] ++ (l43.map (cI .i64)).drop (n56 + (l43.length - n56))) = l57.map (cI .i64) := by rw [← gl57]; simp
   have hl57l : l57.length = l43.length := by rw [← gl57]; simp only [List.length_append, List.length_take, List.length_drop, List.length_replicate]; omega
   refine Chain.clear (id := 1000) (off := n56) (len := (l43.length - n56)) (es := l43.map (cI .i64)) (tt := ⟨_, _, _, _⟩) (te := ⟨_, 1, 8, _⟩) (by simp) rfl rfl rfl rfl ty34 rfl ty3 rfl rfl (by simp) (by simp) (by simp; omega) pl57 ?_
   refine Chain.sub (S' := mk 42 [1000] [(0, .ref 1000 0 l57.length), (5, .i (n56 : Int))] [(1000, R3 l57)]) (by simp [hl57]; exact Sub.table (by simp [hl57l]) (by simp)) ?_
   refine Chain.nil ?_
   refine AW.seqR ?_
   replace h := bsome h; obtain ⟨n58, gn58, h⟩ := h
   obtain ⟨hn58a, hn58⟩ := natI_some gn58
   clear gn58
   refine Chain.runK [] 4 fun K hK => ?_; simp [hn58, hn58a]; refine hK _ _ ?_; clear hK K
   refine Chain.sub (S' := mk 42 [1000] [(4, .ref 1000 0 n58)] [(1000, R3 l57)]) (Sub.table (by simp) (by simp)) ?_
   refine Chain.nil ?_
   replace h := lsome h; obtain ⟨l59, gl59, h⟩ := h
   have hl59k : n58 = l59.length := by rw [← gl59, List.length_take]; omega
   subst hl59k
   have hl59 : (l57.map (cI .i64)).take l59.length = l59.map (cI .i64) := by rw [← List.map_take, gl59]
   clear gl59
   refine AW.sub (Sub.cut 1000 l59.length rfl) ?_
   refine AW.sub (S' := mk 42 [1000] [(4, .ref 1000 0 l59.length)] [(1000, R3 l59)]) (by simp [hl59]; exact Sub.table (by simp) (by simp)) ?_
   refine AW.ret ?_
   cases h
   exact FinF.ret (by simp) (by simp)

end Go.Proofs.Ytiikoldaocnilaa
