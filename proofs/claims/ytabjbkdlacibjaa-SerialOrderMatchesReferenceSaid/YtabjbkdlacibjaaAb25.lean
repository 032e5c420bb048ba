/- The abstract machine: == and != of structs and arrays. -/
import Derived.Test.YtabjbkdlacibjaaAb24
import Derived.Laws.StructEq
namespace Go.Ab
open Go.RowKit

theorem pure_eqA {P : Program} {S : St} {T : TypeId} {x y : Operand} {ty : TypeId} {cs ds : List V} {xs ys : List Value} {b : Bool} (neq : Bool) (hx : S.ev x = .agg cs) (hy : S.ev y = .agg ds) (hcs : litsOf cs = some xs) (hds : litsOf ds = some ys)
    (hm : P.eqGuardType P.depth T = false) (he : ∀ w, (Op.equalIn 10000 T (.agg xs.toArray) (.agg ys.toArray)).run P w = .ok b w) : Pure P (.binOp (if neq then .neq else .eql) T x y ty) S (.d (.lit (.bool (if neq then !b else b)))) := by
  intro E w ρ oo hoo ok hev
  unfold execOp
  rw [hoo]
  have h1 := hev x
  rw [hx] at h1
  obtain ⟨vs, h1, _, h2⟩ := h1
  have h3 := hev y
  rw [hy] at h3
  obtain ⟨us, h3, _, h4⟩ := h3
  have e1 := litsOf_sound h2 hcs
  have e2 := litsOf_sound h4 hds
  subst e1; subst e2
  refine ⟨_, ⟨rfl, rfl⟩, fun w' _ => ?_⟩
  cases neq <;>
  · simp only [h1, h3]
    simp [run_eqGuard_agg _ _ _ _ _ _ _ hm, run_eql_struct, run_neq_struct, he]

/-- arrays of two integers -/
theorem eq_int2 {P : Program} {T e : TypeId} {k : IntKind} {te : TI} (hT : P.underlying T = some (.array 2 e)) (he : tyOf P e = some te) (hd : te.desc = .int k) (hs : te.size = 1) (a b c d : Int) (w : World) :
    (Op.equalIn 10000 T (.agg [.int k a, .int k b].toArray) (.agg [.int k c, .int k d].toArray)).run P w = .ok ((a == c) && (b == d)) w := by
  have hu : P.underlying e = some (.int k) := by rw [(tyOf_spec he).1, hd]
  have hsz := run_sizeOf he w
  rw [hs] at hsz
  unfold Op.equalIn
  simp [run_underlying hT, hsz]
  rw [show List.range' 0 2 = [0, 1] from rfl]
  have hp : ∀ (i : Nat) (x : Int) (l : Array Value), l[i]? = some (.int k x) → ∀ w, (part e l i).run P w = .ok (.int k x) w := fun i x l h w => by
    have hsz := run_sizeOf he w
    rw [hs] at hsz
    have hu := run_und he w
    rw [hd] at hu
    simp [part, isAgg, hu, h, TypeDesc.isRow]
  have h1 := hp 0 a #[.int k a, .int k b] rfl
  have h2 := hp 0 c #[.int k c, .int k d] rfl
  have h3 := hp 1 b #[.int k a, .int k b] rfl
  have h4 := hp 1 d #[.int k c, .int k d] rfl
  have he9 : ∀ (x y : Int) w, (Op.equalIn 9999 e (.int k x) (.int k y)).run P w = .ok (x == y) w := fun x y w => run_equalIn_int w 9998 e k k x y hu
  simp [h1, h2, h3, h4, he9]
  by_cases q1 : a = c
  · by_cases q2 : b = d
    · simp [q1, q2, h1, h2, h3, h4, he9]
    · simp [q1, q2, h1, h2, h3, h4, he9]
  · simp [q1, h1, h2, h3, h4, he9]
end Go.Ab
