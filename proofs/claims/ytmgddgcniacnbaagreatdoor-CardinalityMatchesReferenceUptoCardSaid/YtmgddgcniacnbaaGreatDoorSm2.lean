/- The closed example: what it is handed to. -/
import Derived.Test.YtmgddgcniacnbaaGreatDoorSm1
import Derived.Test.YtmgddgcniacnbaaGreatDoorShelf
import Derived.Test.YtmgddgcniacnbaaGreatDoorA4
import Derived.Test.YtmgddgcniacnbaaGreatDoorTb
import Derived.Test.YtmgddgcniacnbaaGreatDoorX3
import Derived.KernelRfl
import Derived.Lib.AtoiErrMem
namespace Go.Proofs.Tryz
open Go Go.Proofs Go.Xm Go.Ab Go.RowKit
set_option maxRecDepth 1000000

/-- strconv.Atoi at a short numeral -/
def atoiH : Pr → List V → XH → Nat → Option (V × XH × Nat) := fun _ args H nx =>
  match args with
  | [.d (.lit (.string s))] => match Nat.ble s.size 18 with
    | true => match Lib.atoi s.data.toList with
      | some n => some (.tup [.d (.lit (.int .i64 n)), .d (.er false)], H, nx)
      | none => none
    | false => none
  | _ => none
theorem fn150 : prog.funcs[150]? = some f150 := by kernel_rfl
theorem ent150 : Go.Rp.Enters prog 150 := Go.Rp.enters_of fn150 (by kernel_rfl) rfl
theorem atoiH_at : CallAt prog 150 atoiH := by
  intro fl args H nx v H' nx' h
  refine ⟨ent150, fun C E w vals hC hw hlt hv => ?_⟩
  unfold atoiH at h
  split at h
  · rename_i s
    split at h
    · rename_i hs
      have hs := Nat.le_of_ble_eq_true hs
      split at h
      · rename_i n hn
        simp only [Option.some.injEq, Prod.mk.injEq] at h
        obtain ⟨rfl, rfl, rfl⟩ := h
        obtain ⟨x, r, rfl, ⟨rfl, _⟩, rfl⟩ := hv
        refine (Tryz.strconv_Atoi s n hs hn w).mono ?_
        rintro e w' ⟨rfl, t, rfl⟩
        exact ⟨_, E, rfl, ⟨[_, _], rfl, ⟨_, _, rfl, ⟨rfl, rfl⟩, ⟨_, _, rfl, rfl, rfl⟩⟩⟩, hw.later (Lib.bytesWorld_below _ _ _), Agr.refl _ _, Nat.le_refl _⟩
      · cases h
    · cases h
  · cases h

/-! the parts of (*parser).try -/
noncomputable def tryC0 : Code := match f34.body with
  | some (.seq a _) => a
  | _ => .skip
noncomputable def tryO1 : Oper := match f34.body with
  | some (.seq _ (.seq (.region _ ops _) _)) => ops[0]?.getD default
  | _ => default
noncomputable def tryO2 : Oper := match f34.body with
  | some (.seq _ (.seq (.region _ ops _) _)) => ops[1]?.getD default
  | _ => default
noncomputable def tryC2 : Code := match f34.body with
  | some (.seq _ (.seq _ c)) => c
  | _ => .skip
theorem fn34 : prog.funcs[34]? = some f34 := by kernel_rfl
theorem ent34 : Go.Rp.Enters prog 34 := Go.Rp.enters_of fn34 (by kernel_rfl) rfl

theorem squares : SqOK prog [58] := fun T hT => by
  have : T = 58 := by simpa using hT
  subst this
  exact ⟨by kernel_rfl, by kernel_rfl⟩
theorem mixed : prog.follows .mixedOrders = true := by kernel_rfl

noncomputable def pg : Pg := ⟨tyF, [58]⟩
theorem pg_eq : pg = ⟨tyOf prog, [58]⟩ := by
  unfold pg
  rw [ty_eq]
noncomputable def hk : HookF := fun call f => match Nat.beq f 150 with
  | true => some atoiH
  | false => match Nat.beq f 34 with
    | true => some (tryH pg 400 f34 tryC0 tryO1 57 tryC2 call)
    | false => none
theorem hk_ok : HookOK prog hk := by
  intro call hcall f g h
  unfold hk at h
  split at h
  · rename_i hf
    have hf := Nat.eq_of_beq_eq_true hf
    subst hf
    injection h with h; subst h
    exact atoiH_at
  · split at h
    · rename_i hf
      have hf := Nat.eq_of_beq_eq_true hf
      subst hf
      injection h with h; subst h
      have := tryH_sound (o2 := tryO2) (i1 := 1) (d := 6) squares mixed hcall 400 fn34 ent34 rfl rfl rfl rfl rfl ⟨_, rfl⟩ idle57 (c0 := tryC0) (o1 := tryO1) (c2 := tryC2)
      rw [← pg_eq] at this
      exact this
    · cases h

noncomputable def ft (f : Nat) : Option Func := ftT.get f
theorem ft_bodies : ((ftT.toL id).all fun p => p.2.body.isSome && !(p.2.name == "runtime.NumGoroutine")) = true := by kernel_rfl
theorem ft_ok : ∀ f fn, ft f = some fn → prog.funcs[f]? = some fn ∧ Go.Rp.Enters prog f := by
  intro f fn h
  have hf := ft_mem h
  have hm := Tr.mem_toL ftT id h
  have hb := List.all_eq_true.1 ft_bodies _ hm
  simp only [Bool.and_eq_true] at hb
  refine ⟨hf, ?_⟩
  cases hc : fn.body with
  | none => rw [hc] at hb; exact absurd hb.1 (by simp)
  | some c => exact Go.Rp.enters_of hf (by simpa using hb.2) hc
theorem call_ok {hk : HookF} (h : HookOK prog hk) : CallOK prog (fnX hk ft pg 400 40) := by
  rw [pg_eq]
  exact fnX_sound h squares mixed ft_ok 400 40
def isTrue (r : Option (V × XH × Nat)) : Bool := match r with
  | some (.d (.lit (.bool b)), _, _) => b
  | _ => false
end Go.Proofs.Tryz
