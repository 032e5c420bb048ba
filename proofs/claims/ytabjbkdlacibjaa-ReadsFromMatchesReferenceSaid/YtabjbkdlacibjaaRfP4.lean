/- The law's arguments as the functional program takes them. -/
import Derived.Test.YtabjbkdlacibjaaRfP3
namespace Go.Proofs.Ytabjbkdlacibjaa
open Go.Ab Go.Rp
open Go.Ab.Enc (eC eV)

abbrev ROp := Rp.St (Int × Int × ByteArray × Unit)
def toOp (t : ROp) : Op27 := ⟨t.val.1, t.val.2.1, t.val.2.2.1⟩
theorem eC_rop (t : ROp) : (eC t : List D) = cS27 (toOp t) := rfl

theorem readsfrom_fun (a : List ROp) (o : List Int) (hz : a.length * 32 ≤ reach) (ho : o.length * 8 ≤ reach) : Fun Try.prog 5 [eV a, eV o] (fun r _ => r = .d (.lit (.bool true))) := by
  have h := p5 9223372036854775808 (a.map toOp) o true (d5_true (Nat.le_refl _) (by kernel_rfl) (by simpa using hz) (by unfold small; unfold reach at ho; omega))
  have e1 : (eV a : V) = .d (.sl ((a.map toOp).map cS27)) := by
    show V.d (.sl (a.map eC)) = _
    rw [List.map_map]
    rfl
  have e2 : (eV o : V) = .d (.sl (o.map (cI .i64))) := rfl
  rw [e1, e2]
  exact h.2.mono fun _ _ h => h.1
end Go.Proofs.Ytabjbkdlacibjaa
