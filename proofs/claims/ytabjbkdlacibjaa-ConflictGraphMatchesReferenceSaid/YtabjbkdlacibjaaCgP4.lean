/- The law's argument as the functional program takes it. -/
import Derived.Test.YtabjbkdlacibjaaCgP3
namespace Go.Proofs.Ytabjbkdlacibjaa
open Go.Ab Go.Rp
open Go.Ab.Enc (eC eV)

abbrev ROp := Rp.St (Int × Int × ByteArray × Unit)
def toOp (t : ROp) : Op27 := ⟨t.val.1, t.val.2.1, t.val.2.2.1⟩
theorem eC_rop (t : ROp) : (eC t : List D) = cS27 (toOp t) := rfl

theorem conflictgraph_fun (a : List ROp) (hz : a.length * 32 ≤ reach) : Fun Try.prog 4 [eV a] (fun r _ => r = .d (.lit (.bool true))) := by
  have h := p4 9223372036854775808 (a.map toOp) true (d4_true (Nat.le_refl _) (by kernel_rfl) (by simpa using hz))
  have e1 : (eV a : V) = .d (.sl ((a.map toOp).map cS27)) := by
    show V.d (.sl (a.map eC)) = _
    rw [List.map_map]
    rfl
  rw [e1]
  exact h.2.mono fun _ _ h => h.1
end Go.Proofs.Ytabjbkdlacibjaa
