/- Functional programs: contracts of functions that change what they are lent. -/
import Derived.Test.YtabjbkdlacibjaaAb31
namespace Go.Ab
open Go.RowKit

def FunM (P : Program) (f : FuncId) (args : List V) (h0 : List (Nat × Option Blk)) (rts : List Nat) (v : V) (h1 : List (Nat × Blk)) : Prop :=
  Ctr P f args (hlook h0) rts (fun r H => r = v ∧ ∀ q ∈ h1, H q.1 = some q.2)
def FinF (P : Program) (fn : Func) (v : V) (h1 : List (Nat × Blk)) (e : Exit) (S : St) : Prop := (e = .normal ∨ e = .ret) ∧ outV (tyOf P) fn.results.toList S = some v ∧ ∀ q ∈ h1, S.hp q.1 = some q.2

theorem FinF.ret {P : Program} {fn : Func} {v : V} {h1 : List (Nat × Blk)} {S : St} (h2 : outV (tyOf P) fn.results.toList S = some v) (h3 : ∀ q ∈ h1, S.hp q.1 = some q.2) : FinF P fn v h1 .ret S := ⟨.inr rfl, h2, h3⟩
theorem FinF.normal {P : Program} {fn : Func} {v : V} {h1 : List (Nat × Blk)} {S : St} (h2 : outV (tyOf P) fn.results.toList S = some v) (h3 : ∀ q ∈ h1, S.hp q.1 = some q.2) : FinF P fn v h1 .normal S := ⟨.inl rfl, h2, h3⟩

theorem FunM.enter {P : Program} {f : FuncId} {fn : Func} {c : Code} {args : List V} {h0 : List (Nat × Option Blk)} {rts : List Nat} {v : V} {h1 : List (Nat × Blk)} (nt : Nat) (l : List (Nat × V)) (hf : P.funcs[f]? = some fn) (hb : fn.body = some c) (hle : args.length ≤ fn.ntmps) (hn : fn.ntmps = nt) (hl : enterL args 0 = l)
    (h : AW P c (mk nt rts l h0) (FinF P fn v h1)) : FunM P f args h0 rts v h1 := by
  subst hn; subst hl
  exact Ctr.of hf hb hle (h.mono fun e S ⟨h1, h2, h3⟩ => ⟨h1, v, h2, rfl, h3⟩)

/-- a call that changes what it is lent -/
theorem Chain.callF {P : Program} {ops : Array Oper} {o : Oper} {l : List Oper} {S : St} {Q' : St → Prop} {c : Call} {f : FuncId} {caps args : List V} {rts : List Nat} {h0 : List (Nat × Option Blk)} {v : V} {h1 : List (Nat × Blk)} (hF : FunM P f args h0 rts v h1)
    (lent : List (Nat × Nat)) (rt : List Nat) (pl : List (Nat × Nat)) (bl : List (Nat × Blk)) (r' : V)
    (hw : wantedV ops S o = some true) (ho : o.op = .call c)
    (hcal : calleeV S c = some (f, caps)) (hargs : rnmL lent (c.args.toList.map S.ev ++ caps) = some args) (hks : (lent.map (·.1)).Nodup) (hcs : (lent.map (·.2)).Nodup)
    (hlent : ∀ p ∈ lent, ∃ b b', S.hp p.1 = some b ∧ b.rnm lent = some b' ∧ hlook h0 p.2 = some b') (honly : ∀ q ∈ h0, ∃ p ∈ lent, p.2 = q.1)
    (hent : Rp.Enters P f)
    (hp1 : (pl.map (·.1)).Nodup) (hp2 : (pl.map (·.2)).Nodup) (hhere : ∀ p ∈ pl, ∃ b, (p.1, b) ∈ h1)
    (hroot : ∀ p ∈ pl, (rt.contains p.2 = true ∧ (p.2, p.1) ∈ lent ∧ p.1 ∈ rts) ∨ (rt.contains p.2 = false ∧ p.2 ∉ S.rts))
    (hblk : ∀ q ∈ bl, ∃ c b, (c, q.1) ∈ pl ∧ (c, b) ∈ h1 ∧ b.rnm pl = some q.2) (hres : v.rnm pl = some r')
    (hrest : Chain false P ops l (S.after lent rt pl bl o.dst r') Q') : Chain false P ops (o :: l) S Q' := by
  refine Chain.callM lent rt hw ho hcal hargs hks hcs hlent honly hent hF fun r H1 ⟨hr, hh⟩ => ⟨pl, bl, r', ⟨hp1, hp2, fun p hp => ?_, hroot, fun q hq => ?_, by rw [hr]; exact hres⟩, hrest⟩
  · obtain ⟨b, hb⟩ := hhere p hp
    rw [hh _ hb]; simp
  · obtain ⟨c, b, h2, h3, h4⟩ := hblk q hq
    exact ⟨c, b, h2, hh _ h3, h4⟩
end Go.Ab
