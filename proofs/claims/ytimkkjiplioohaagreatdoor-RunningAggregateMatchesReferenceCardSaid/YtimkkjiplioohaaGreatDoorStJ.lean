/- A method called by an interface value, that hands back literals. -/
import Derived.Test.YtimkkjiplioohaaGreatDoorA4
namespace Go.Ab
open Go.RowKit
theorem Chain.callLG {q : Bool} {P : Program} {ops : Array Oper} {o : Oper} {l : List Oper} {S : St} {Q' : St → Prop} {d : Nat} {f : FuncId} {full args : List V} {r : V} {x : Value} (hF : FunC P f args r) (hw : wantedV ops S o = some true) (hto : CallsTo P S o f full) (hd : o.dst = some d)
    (hargs : mapO (viewV S.hp) full = some args) (_ : Rp.Enters P f) (hx : exactV r = some x)
    (hrest : Chain q P ops l (S.put (some d) r) Q') : Chain q P ops (o :: l) S Q' :=
  Chain.callXG hw hto hd hargs (hF.2.mono fun _ _ h => h.1) hx hrest
end Go.Ab
