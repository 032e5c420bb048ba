/- The abstract machine: what 'simp' evaluates. -/
import Derived.Test.YtabjbkdlacibjaaAb13
namespace Go.Ab
open Go.RowKit
theorem mk_rts {nt : Nat} {rts : List Nat} {l : List (Nat × V)} {h : List (Nat × Option Blk)} : (mk nt rts l h).rts = rts := rfl
theorem mk_nt {nt : Nat} {rts : List Nat} {l : List (Nat × V)} {h : List (Nat × Option Blk)} : (mk nt rts l h).nt = nt := rfl
theorem ite_lit_bool {p : Prop} [Decidable p] {x y : Bool} : (if p then V.d (.lit (.bool x)) else V.d (.lit (.bool y))) = V.d (.lit (.bool (if p then x else y))) := by split <;> rfl
attribute [simp] killC runM runN wantedV pureV effV St.ev tlook hlook litV plain cellsV V.cell V.has hasL mk_kill mk_setH mk_setS mk_put mk_put_none mk_sl mk_hp mk_rts mk_nt mk_got killL killH killB hupd upd thenK
  cellsAt ldV TypeDesc.row isRow offP idxS litOp eqNil nilSl nilPt nilMp stV setL setD toDs toD bsV fillV zeroL litL chunk apV rowOf srcV lenV sliceSl sliceRef sliceStr bnd buildV placesOf minL minV
  resL resV outV enterL thenQ blockQ calleeV mapO viewV viewD V.closed closedL V.only onlyL V.ren renL Blk.ren V.flat flatL D.flat Blk.flat exactV litsOf ite_lit_bool
end Go.Ab
