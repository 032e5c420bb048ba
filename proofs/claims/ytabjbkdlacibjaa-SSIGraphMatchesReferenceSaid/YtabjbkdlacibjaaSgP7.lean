/- The law's arguments as the functional program takes them. -/
import Derived.Test.YtabjbkdlacibjaaSgP6
namespace Go.Proofs.Ytabjbkdlacibjaa
open Go.Ab Go.Rp
open Go.Ab.Enc (eC eV)

abbrev RTx := Rp.St (Int × Int × List ByteArray × List ByteArray × Unit)
def toTx (t : RTx) : Tx := ⟨t.val.1, t.val.2.1, t.val.2.2.1, t.val.2.2.2.1⟩
theorem eC_rtx (t : RTx) : (eC t : List D) = cS105 (toTx t) := rfl
theorem eC_bool' (b : Bool) : (eC b : List D) = cB b := rfl

theorem ssigraph_fun (a : List RTx) (adm : List Bool) (hz : a.length * 64 ≤ reach) : Fun Try.prog 8 [eV a, eV adm] (fun r _ => r = .d (.lit (.bool true))) := by
  have h := p8 9223372036854775808 (a.map toTx) adm true (d8_true (Nat.le_refl _) (by kernel_rfl) (by simpa using hz) adm)
  have e1 : (eV a : V) = .d (.sl ((a.map toTx).map cS105)) := by
    show V.d (.sl (a.map eC)) = _
    rw [List.map_map]
    rfl
  have e2 : (eV adm : V) = .d (.sl (adm.map cB)) := rfl
  rw [e1, e2]
  exact h.2.mono fun _ _ h => h.1
end Go.Proofs.Ytabjbkdlacibjaa
