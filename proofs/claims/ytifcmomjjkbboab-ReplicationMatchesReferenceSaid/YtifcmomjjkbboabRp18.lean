/- Functions of the program as functional programs; the code computes them. -/
import Derived.Test.YtifcmomjjkbboabRp17
namespace Go.Proofs.Ytifcmomjjkbboab
open Go.Ab Go.Rp
attribute [-simp] List.all_eq_true Array.all_toList Array.all_eq_true

/-- stemma/stemlaw5.sameCluster$1 -/
def d39 (N : Nat) (a0 : S73) (a1 : S73) : Option Bool :=
 Option.bind (α := Bool) (
  if (a0.Kind == a1.Kind) then (
   if (a0.From == a1.From) then (
    if (a0.To == a1.To) then (
     if (a0.Term == a1.Term) then (
      if (a0.Index == a1.Index) then (
       if (a0.PrevTerm == a1.PrevTerm) then (
        if (a0.Commit == a1.Commit) then (
         (d35 N a0.Entries a1.Entries).bind fun r17 =>
         some r17
        ) else
        some false
       ) else
       some false
      ) else
      some false
     ) else
     some false
    ) else
    some false
   ) else
   some false
  ) else
  some false
 ) fun (v9 : Bool) =>
 some v9
set_option maxRecDepth 100000 in
set_option maxHeartbeats 4000000 in
theorem p39 (N : Nat) (a0 : S73) (a1 : S73) (r : Bool) (h : d39 N a0 a1 = some r) : FunC Try.prog 39 [.agg [.i a0.Kind, .i a0.From, .i a0.To, .i a0.Term, .i a0.Index, .i a0.PrevTerm, .i a0.Commit, .d (.sl (a0.Entries.map cS64))], .agg [.i a1.Kind, .i a1.From, .i a1.To, .i a1.Term, .i a1.Index, .i a1.PrevTerm, .i a1.Commit, .d (.sl (a1.Entries.map cS64))]] (.b r) := by
 unfold d39 at h
 refine FunC.enter 59 [(0, .agg [.i a0.Kind, .i a0.From, .i a0.To, .i a0.Term, .i a0.Index, .i a0.PrevTerm, .i a0.Commit, .d (.sl (a0.Entries.map cS64))]), (1, .agg [.i a1.Kind, .i a1.From, .i a1.To, .i a1.Term, .i a1.Index, .i a1.PrevTerm, .i a1.Commit, .d (.sl (a1.Entries.map cS64))])] (by simp) Try.func39 rfl (of_decide_eq_true rfl) rfl rfl ?_
 refine .seqR ?_
 refine .runK [] 3 fun K k => ?_; simp; refine k _ _ ?_; clear k K
 refine .tt [(2, .ptr 2 0 0), (3, .ptr 3 0 0)] (H11 a0 a1) ?_
 refine .nil ?_
 replace h := bsome h; obtain ⟨v9, hj, h⟩ := h
 refine .cutR (mk 59 [] [(4, .b v9)] []) ?_ ?_
 ·clear h; have h := hj; clear hj
  refine .runK [] 6 fun K k => ?_; simp; refine k _ _ ?_; clear k K
  refine .tt [(2, .ptr 2 0 0), (3, .ptr 3 0 0), (10, .b (a0.Kind == a1.Kind))] (H11 a0 a1) ?_
  replace h := isome h; rcases h with ⟨c10, h⟩ | ⟨c10, h⟩
  ·have c10_ : (a0.Kind == a1.Kind) = true := c10
   refine .sub (.bool 10 (b := (a0.Kind == a1.Kind)) rfl c10_) ?_
   refine .st (mk 59 [] [(2, .ptr 2 0 0), (3, .ptr 3 0 0), (10, .b true)] (H11 a0 a1)) ?_
   refine .runK [] 7 fun K k => ?_; simp; refine k _ _ ?_; clear k K
   refine .tt [(2, .ptr 2 0 0), (3, .ptr 3 0 0), (17, .b (a0.From == a1.From))] (H11 a0 a1) ?_
   replace h := isome h; rcases h with ⟨c11, h⟩ | ⟨c11, h⟩
   ·have c11_ : (a0.From == a1.From) = true := c11
    refine .sub (.bool 17 (b := (a0.From == a1.From)) rfl c11_) ?_
    refine .st (mk 59 [] [(2, .ptr 2 0 0), (3, .ptr 3 0 0), (17, .b true)] (H11 a0 a1)) ?_
    refine .runK [] 7 fun K k => ?_; simp; refine k _ _ ?_; clear k K
    refine .tt [(2, .ptr 2 0 0), (3, .ptr 3 0 0), (24, .b (a0.To == a1.To))] (H11 a0 a1) ?_
    replace h := isome h; rcases h with ⟨c12, h⟩ | ⟨c12, h⟩
    ·have c12_ : (a0.To == a1.To) = true := c12
     refine .sub (.bool 24 (b := (a0.To == a1.To)) rfl c12_) ?_
     refine .st (mk 59 [] [(2, .ptr 2 0 0), (3, .ptr 3 0 0), (24, .b true)] (H11 a0 a1)) ?_
     refine .runK [] 7 fun K k => ?_; simp; refine k _ _ ?_; clear k K
     refine .tt [(2, .ptr 2 0 0), (3, .ptr 3 0 0), (31, .b (a0.Term == a1.Term))] (H11 a0 a1) ?_
     replace h := isome h; rcases h with ⟨c13, h⟩ | ⟨c13, h⟩
     ·have c13_ : (a0.Term == a1.Term) = true := c13
      refine .sub (.bool 31 (b := (a0.Term == a1.Term)) rfl c13_) ?_
      refine .st (mk 59 [] [(2, .ptr 2 0 0), (3, .ptr 3 0 0), (31, .b true)] (H11 a0 a1)) ?_
      refine .runK [] 7 fun K k => ?_; simp; refine k _ _ ?_; clear k K
      refine .tt [(2, .ptr 2 0 0), (3, .ptr 3 0 0), (38, .b (a0.Index == a1.Index))] (H11 a0 a1) ?_
      replace h := isome h; rcases h with ⟨c14, h⟩ | ⟨c14, h⟩
      ·have c14_ : (a0.Index == a1.Index) = true := c14
       refine .sub (.bool 38 (b := (a0.Index == a1.Index)) rfl c14_) ?_
       refine .st (mk 59 [] [(2, .ptr 2 0 0), (3, .ptr 3 0 0), (38, .b true)] (H11 a0 a1)) ?_
       refine .runK [] 7 fun K k => ?_; simp; refine k _ _ ?_; clear k K
       refine .tt [(2, .ptr 2 0 0), (3, .ptr 3 0 0), (45, .b (a0.PrevTerm == a1.PrevTerm))] (H11 a0 a1) ?_
       replace h := isome h; rcases h with ⟨c15, h⟩ | ⟨c15, h⟩
       ·have c15_ : (a0.PrevTerm == a1.PrevTerm) = true := c15
        refine .sub (.bool 45 (b := (a0.PrevTerm == a1.PrevTerm)) rfl c15_) ?_
        refine .st (mk 59 [] [(2, .ptr 2 0 0), (3, .ptr 3 0 0), (45, .b true)] (H11 a0 a1)) ?_
        refine .runK [] 7 fun K k => ?_; simp; refine k _ _ ?_; clear k K
        refine .tt [(2, .ptr 2 0 0), (3, .ptr 3 0 0), (52, .b (a0.Commit == a1.Commit))] (H11 a0 a1) ?_
        replace h := isome h; rcases h with ⟨c16, h⟩ | ⟨c16, h⟩
        ·have c16_ : (a0.Commit == a1.Commit) = true := c16
         refine .sub (.bool 52 (b := (a0.Commit == a1.Commit)) rfl c16_) ?_
         refine .st (mk 59 [] [(2, .ptr 2 0 0), (3, .ptr 3 0 0), (52, .b true)] (H11 a0 a1)) ?_
         refine .runK [] 4 fun K k => ?_; simp; refine k _ _ ?_; clear k K
         refine .tt [(52, .b true), (54, .d (.sl (a0.Entries.map cS64))), (56, .d (.sl (a1.Entries.map cS64)))] [] ?_
         replace h := bsome h; obtain ⟨r17, hr17, h⟩ := h
         refine .callL (d := 57) (p35 N a0.Entries a1.Entries r17 hr17) (by simp) rfl rfl (by simp <;> rfl) (by simp <;> rfl) ent35 (by simp <;> rfl) ?_
         refine .st (mk 59 [] [(52, .b true), (54, .d (.sl (a0.Entries.map cS64))), (56, .d (.sl (a1.Entries.map cS64))), (57, .b r17)] []) ?_
         refine .runK [] 2 fun K k => ?_; simp; refine k _ _ ?_; clear k K
         refine .tt [(4, .b r17)] [] ?_
         cases h
         exact .nil .tt
        have c16_ : (a0.Commit == a1.Commit) = false := Bool.eq_false_iff.2 c16
        refine .sub (.bool 52 (b := (a0.Commit == a1.Commit)) rfl c16_) ?_
        refine .st (mk 59 [] [(2, .ptr 2 0 0), (3, .ptr 3 0 0), (52, .b false)] (H11 a0 a1)) ?_
        refine .runK [] 7 fun K k => ?_; simp; refine k _ _ ?_; clear k K
        refine .tt [(4, .b false)] [] ?_
        cases h
        exact .nil .tt
       have c15_ : (a0.PrevTerm == a1.PrevTerm) = false := Bool.eq_false_iff.2 c15
       refine .sub (.bool 45 (b := (a0.PrevTerm == a1.PrevTerm)) rfl c15_) ?_
       refine .st (mk 59 [] [(2, .ptr 2 0 0), (3, .ptr 3 0 0), (45, .b false)] (H11 a0 a1)) ?_
       refine .runK [] 14 fun K k => ?_; simp; refine k _ _ ?_; clear k K
       refine .tt [(4, .b false)] [] ?_
       cases h
       exact .nil .tt
      have c14_ : (a0.Index == a1.Index) = false := Bool.eq_false_iff.2 c14
      refine .sub (.bool 38 (b := (a0.Index == a1.Index)) rfl c14_) ?_
      refine .st (mk 59 [] [(2, .ptr 2 0 0), (3, .ptr 3 0 0), (38, .b false)] (H11 a0 a1)) ?_
      refine .runK [] 21 fun K k => ?_; simp; refine k _ _ ?_; clear k K
      refine .tt [(4, .b false)] [] ?_
      cases h
      exact .nil .tt
     have c13_ : (a0.Term == a1.Term) = false := Bool.eq_false_iff.2 c13
     refine .sub (.bool 31 (b := (a0.Term == a1.Term)) rfl c13_) ?_
     refine .st (mk 59 [] [(2, .ptr 2 0 0), (3, .ptr 3 0 0), (31, .b false)] (H11 a0 a1)) ?_
     refine .runK [] 28 fun K k => ?_; simp; refine k _ _ ?_; clear k K
     refine .tt [(4, .b false)] [] ?_
     cases h
     exact .nil .tt
    have c12_ : (a0.To == a1.To) = false := Bool.eq_false_iff.2 c12
    refine .sub (.bool 24 (b := (a0.To == a1.To)) rfl c12_) ?_
    refine .st (mk 59 [] [(2, .ptr 2 0 0), (3, .ptr 3 0 0), (24, .b false)] (H11 a0 a1)) ?_
    refine .runK [] 35 fun K k => ?_; simp; refine k _ _ ?_; clear k K
    refine .tt [(4, .b false)] [] ?_
    cases h
    exact .nil .tt
   have c11_ : (a0.From == a1.From) = false := Bool.eq_false_iff.2 c11
   refine .sub (.bool 17 (b := (a0.From == a1.From)) rfl c11_) ?_
   refine .st (mk 59 [] [(2, .ptr 2 0 0), (3, .ptr 3 0 0), (17, .b false)] (H11 a0 a1)) ?_
   refine .runK [] 42 fun K k => ?_; simp; refine k _ _ ?_; clear k K
   refine .tt [(4, .b false)] [] ?_
   cases h
   exact .nil .tt
  have c10_ : (a0.Kind == a1.Kind) = false := Bool.eq_false_iff.2 c10
  refine .sub (.bool 10 (b := (a0.Kind == a1.Kind)) rfl c10_) ?_
  refine .st (mk 59 [] [(2, .ptr 2 0 0), (3, .ptr 3 0 0), (10, .b false)] (H11 a0 a1)) ?_
  refine .runK [] 49 fun K k => ?_; simp; refine k _ _ ?_; clear k K
  refine .tt [(4, .b false)] [] ?_
  cases h
  exact .nil .tt
 clear hj
 refine .ret ?_
 cases h
 exact FinC.ret (by simp) (by simp)
end Go.Proofs.Ytifcmomjjkbboab
