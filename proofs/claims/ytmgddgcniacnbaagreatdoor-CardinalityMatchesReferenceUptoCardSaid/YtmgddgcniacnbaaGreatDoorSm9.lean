/- The closed example: it answers true. -/
import Derived.Test.YtmgddgcniacnbaaGreatDoorSm8
namespace Go.Proofs.Tryz
open Go Go.Proofs Go.Xm Go.Ab Go.RowKit
set_option maxRecDepth 1000000
theorem sample_eval : isTrue (fnX hk44 ft pg 400 40 ⟨0, []⟩ 4 [] .nil 0) = true := by kernel_rfl
theorem isTrue_iff {r : Option (V × XH × Nat)} (h : isTrue r = true) : ∃ H nx, r = some (.d (.lit (.bool true)), H, nx) := by
  unfold isTrue at h
  split at h
  · subst h; exact ⟨_, _, rfl⟩
  · cases h
theorem calls_of_true {call : CallF} {f : FuncId} (hok : CallOK prog call) (h : isTrue (call ⟨0, []⟩ f [] .nil 0) = true) (w : World) : Calls prog f #[] w fun e w' => e = .returned (.bool true) ∧ Below w.heap.size w w' := by
  obtain ⟨H, nx, hr⟩ := isTrue_iff h
  obtain ⟨_, hc⟩ := hok _ _ _ _ _ _ _ _ hr
  let E : Env := ⟨fun _ => ⟨0, 0, 0, 0, false, fun _ => False⟩, fun _ => False⟩
  have hw : XW ⟨w, ⟨0, []⟩, fun _ => 0, fun _ => none, []⟩ 0 .nil E w := ⟨fun i b h => by simp [Tr.get] at h, fun i b h => by simp [Tr.get] at h, fun i j h => by simp [Tr.get] at h, fun i _ h => by simp [Tr.get] at h, fun _ h => h, fun _ _ h => h, Below.refl _ _, fun i h => by cases h⟩
  refine (hc ⟨w, ⟨0, []⟩, fun _ => 0, fun _ => none, []⟩ E w [] rfl hw rfl rfl).mono ?_
  rintro e w' ⟨u, E', rfl, ⟨rfl, _⟩, hw', _, _⟩
  exact ⟨rfl, hw'.below⟩
theorem sample_calls (w : World) : Calls prog 4 #[] w fun e w' => e = .returned (.bool true) ∧ Below w.heap.size w w' := calls_of_true (call_ok hk44_ok) sample_eval w
theorem sample_fun : FunC prog 4 [] (.d (.lit (.bool true))) :=
  FunC.of_calls (vals := []) (by rintro E w vs rfl; rfl) rfl fun w _ => (sample_calls w).mono fun e w' h => ⟨h.1, h.2⟩
end Go.Proofs.Tryz
