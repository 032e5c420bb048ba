/- Functional programs: contracts of functions that hand back a row of their own. -/
import Derived.Test.YtabjbkdlacibjaaAb35
namespace Go.Ab
open Go.RowKit

/-- v names the row 0 -/
def FunO (P : Program) (f : FuncId) (args : List V) (v : V) (blk : Blk) : Prop := Fun P f args (fun r k => r.ren 0 = v ∧ k = some blk)
def FinO (P : Program) (fn : Func) (v : V) (blk : Blk) (e : Exit) (S : St) : Prop :=
  (e = .normal ∨ e = .ret) ∧ ∃ r, outV (tyOf P) fn.results.toList S = some r ∧ ∃ id T n es, r.only id = true ∧ S.hp id = some (.arr T n es) ∧ r.ren 0 = v ∧ blk = .arr T n es

theorem FinO.ret {P : Program} {fn : Func} {v : V} {blk : Blk} {S : St} (r : V) (id : Nat) {T n : Nat} {es : List (List D)} (h1 : outV (tyOf P) fn.results.toList S = some r) (h2 : r.only id = true) (h3 : S.hp id = some (.arr T n es)) (h4 : r.ren 0 = v) (h5 : blk = .arr T n es) : FinO P fn v blk .ret S :=
  ⟨.inr rfl, r, h1, id, T, n, es, h2, h3, h4, h5⟩

theorem FunO.enter {P : Program} {f : FuncId} {fn : Func} {c : Code} {args : List V} {v : V} {blk : Blk} (nt : Nat) (l : List (Nat × V)) (hf : P.funcs[f]? = some fn) (hb : fn.body = some c) (hle : args.length ≤ fn.ntmps) (hn : fn.ntmps = nt) (hl : enterL args 0 = l)
    (h : AW P c (mk nt [] l []) (FinO P fn v blk)) : FunO P f args v blk := by
  subst hn; subst hl
  exact Fun.fin hf hb hle (h.mono fun _ _ ⟨h1, r, h2, id, T, n, es, h3, h4, h5, h6⟩ => ⟨h1, r, h2, .inr ⟨id, T, n, es, h3, h4, h5, by rw [h6]⟩⟩)

mutual
theorem ren_ren {d e : Nat} : ∀ (c : V), (c.ren e).ren d = c.ren d
  | .d _ => rfl
  | .dx _ => rfl
  | .ref .. => rfl
  | .ptr .. => rfl
  | .mref _ => rfl
  | .hole => rfl
  | .junk => rfl
  | .agg cs => by simp only [V.ren]; rw [renL_renL cs]
  | .tup cs => by simp only [V.ren]; rw [renL_renL cs]
  | .fn f cs => by simp only [V.ren]; rw [renL_renL cs]
theorem renL_renL {d e : Nat} : ∀ (cs : List V), renL d (renL e cs) = renL d cs
  | [] => rfl
  | c :: cs => by simp only [renL]; rw [ren_ren c, renL_renL cs]
end

/-- a call that hands back a row of its own -/
theorem Chain.callO {P : Program} {ops : Array Oper} {o : Oper} {l : List Oper} {S : St} {Q' : St → Prop} {c : Call} {d : Nat} {f : FuncId} {caps args : List V} {v : V} {T n : Nat} {es : List (List D)} (hF : FunO P f args v (.arr T n es)) (hw : wantedV ops S o = some true) (ho : o.op = .call c) (hd : o.dst = some d)
    (hcal : calleeV S c = some (f, caps)) (hargs : mapO (viewV S.hp) (c.args.toList.map S.ev ++ caps) = some args) (hent : Rp.Enters P f) (hid : S.rts.contains d = false)
    (hclo : c.args.toList.map S.ev ++ caps = args ∧ closedL args = true)
    (hrest : Chain false P ops l (((S.kill d).setH d (some (.arr T n es))).put (some d) (v.ren d)) Q') : Chain false P ops (o :: l) S Q' := by
  refine Chain.call hw ho hd hcal hargs hent hF hid (.inl hclo) fun r k hq => ?_
  obtain ⟨h1, rfl⟩ := hq
  unfold St.got
  rw [← ren_ren (d := d) (e := 0) r, h1]
  exact hrest
end Go.Ab
