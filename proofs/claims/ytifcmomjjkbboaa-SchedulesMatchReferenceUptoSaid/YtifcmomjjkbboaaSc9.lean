/- Functions of the program as functional programs; the code computes them. -/
import Derived.Test.YtifcmomjjkbboaaSc8
namespace Go.Proofs.Ytifcmomjjkbboaa
open Go.Ab Go.Rp
attribute [-simp] List.all_eq_true Array.all_toList Array.all_eq_true

/-- stemma/stemref5.NormalForm -/
def d23 : (N : Nat) → (a0 : (List S27)) → Option (List S27)
 | 0, _ => none
 | N + 1, a0 =>
  if ((a0.length : Int) == 0) then (
   some ([] : List S27)
  ) else
  Option.bind (α := Int) (
   iterN (σ := (Int × Int)) (ρ := Int) (fun ((v122, v123) : (Int × Int)) =>
    if v123 < (a0.length : Int) then (
     (idx a0 v123).bind fun x252 =>
     (natI v123 a0.length).bind fun n254 =>
     letv (a0.take n254) fun l255 =>
     Option.bind (α := Bool) (
      iterN (σ := (Bool × Int)) (ρ := Bool) (fun ((v265, v266) : (Bool × Int)) =>
       if v266 < (l255.length : Int) then (
        (idx l255 v266).bind fun x293 =>
        Option.bind (α := Bool) (
         if v265 = true then (
          if (x293.Tx != x252.Tx) then (
           (d19 N x293 x252).bind fun r301 =>
           some (!r301)
          ) else
          some false
         ) else
         some false
        ) fun (v298 : Bool) =>
        (chkI (v266 + 1)).bind fun v302 =>
        some (.inl (v298, v302))
       ) else
       some (.inr v265)
      ) N (true, 0)
     ) fun (v291 : Bool) =>
     Option.bind (α := Bool) (
      if v291 = true then (
       (idx a0 v122).bind fun x308 =>
       some (decide (x252.Tx < x308.Tx))
      ) else
      some false
     ) fun (v306 : Bool) =>
     if v306 = true then (
      (chkI ((n254 : Int) + 1)).bind fun v311 =>
      some (.inl ((n254 : Int), v311))
     ) else
     (chkI ((n254 : Int) + 1)).bind fun v312 =>
     some (.inl (v122, v312))
    ) else
    some (.inr v122)
   ) N (0, 0)
  ) fun (v250 : Int) =>
  (natI v250 a0.length).bind fun n313 =>
  letv (a0.take n313) fun l314 =>
  (appL 32 ([] : List S27) l314).bind fun _l315 =>
  (chkI ((n313 : Int) + 1)).bind fun v316 =>
  (natI v316 a0.length).bind fun n317 =>
  letv (a0.drop n317) fun l318 =>
  (appL 32 l314 l318).bind fun _l319 =>
  (idx a0 (n313 : Int)).bind fun x322 =>
  (d23 N (l314 ++ l318)).bind fun r324 =>
  (appL 32 ([x322] : List S27) r324).bind fun _l325 =>
  some (([x322] : List S27) ++ r324)
set_option maxRecDepth 100000 in
set_option maxHeartbeats 4000000 in
theorem p23 (N : Nat) : ∀ (a0 : (List S27)) (r : (List S27)) (_ : d23 N a0 = some r), FunC Try.prog 23 [.d (.sl (a0.map cS27))] (.d (.sl (r.map cS27))) := by
 induction N with
 | zero => intro a0 r h; cases h
 | succ N ih =>
 intro a0 r h
 unfold d23 at h
 refine FunC.enter 74 [(0, .d (.sl (a0.map cS27)))] (by simp) Try.func23 rfl (of_decide_eq_true rfl) rfl rfl ?_
 refine AW.seqR ?_
 refine Chain.runK [] 1 fun K hK => ?_; simp; refine hK _ _ ?_; clear hK K
 refine Chain.sub (S' := mk 74 [] [(0, .d (.sl (a0.map cS27)))] []) Sub.tt ?_
 refine Chain.nil ?_
 refine AW.seq ?_
 refine AW.seqR ?_
 refine Chain.runK [] 3 fun K hK => ?_; simp; refine hK _ _ ?_; clear hK K
 refine Chain.sub (S' := mk 74 [] [(0, .d (.sl (a0.map cS27))), (12, .b ((a0.length : Int) == 0))] []) Sub.tt ?_
 refine Chain.nil ?_
 replace h := isome h; rcases h with ⟨c1, h⟩ | ⟨c1, h⟩
 ·have c1_ : ((a0.length : Int) == 0) = true := c1
  refine AW.condT (b := ((a0.length : Int) == 0)) rfl c1_ ?_
  refine AW.sub (Sub.bool 12 (b := ((a0.length : Int) == 0)) rfl c1_) ?_
  refine AW.sub (S' := mk 74 [] [(0, .d (.sl (a0.map cS27))), (12, .b true)] []) (by simp; exact Sub.table (by simp) (by simp)) ?_
  refine AW.seqR ?_
  refine Chain.runK [] 1 fun K hK => ?_; simp; refine hK _ _ ?_; clear hK K
  refine Chain.sub (S' := mk 74 [] [(2, .d (.lit (.slice none 0 0)))] []) Sub.tt ?_
  refine Chain.nil ?_
  refine AW.sub (Sub.wk 2 rfl) ?_
  refine AW.sub (S' := mk 74 [] [(2, .d (.sl (([] : List S27).map cS27)))] []) (by simp; exact Sub.table (by simp) (by simp)) ?_
  refine AW.ret ?_
  cases h
  refine thenQ_pass (by simp) ?_
  exact FinC.ret (by simp) (by simp)
 ·have c1_ : ((a0.length : Int) == 0) = false := Bool.eq_false_iff.2 c1
  refine AW.condF (b := ((a0.length : Int) == 0)) rfl c1_ ?_
  refine AW.sub (Sub.bool 12 (b := ((a0.length : Int) == 0)) rfl c1_) ?_
  refine AW.sub (S' := mk 74 [] [(0, .d (.sl (a0.map cS27))), (12, .b false)] []) (by simp; exact Sub.table (by simp) (by simp)) ?_
  refine AW.skip ?_
  refine thenQ_normal ?_
  refine AW.seqR ?_
  refine Chain.runK [] 1 fun K hK => ?_; simp; refine hK _ _ ?_; clear hK K
  refine Chain.sub (S' := mk 74 [] [(0, .d (.sl (a0.map cS27))), (3, .i 0)] []) Sub.tt ?_
  refine Chain.nil ?_
  refine AW.seq ?_
  refine AW.seqR ?_
  refine Chain.runK [] 3 fun K hK => ?_; simp; refine hK _ _ ?_; clear hK K
  refine Chain.sub (S' := mk 74 [] [(0, .d (.sl (a0.map cS27))), (3, .i 0), (13, .d (.sl (a0.map cS27))), (14, .i (a0.length : Int)), (15, .i 0)] []) Sub.tt ?_
  refine Chain.nil ?_
  refine AW.lastN (fun (v250 : Int) => mk 74 [] [(0, .d (.sl (a0.map cS27))), (3, .i v250)] []) h ?_ ?_ <;> clear h
  ·intro o h
   refine AW.block ?_
   refine AW.iter (fun ((v122, v123) : (Int × Int)) => mk 74 [] [(0, .d (.sl (a0.map cS27))), (3, .i v122), (13, .d (.sl (a0.map cS27))), (14, .i (a0.length : Int)), (15, .i v123)] []) h Sub.tt ?_
   clear h
   rintro ⟨v122, v123⟩ x h
   dsimp only at h ⊢
   refine AW.seqR ?_
   refine Chain.runK [] 1 fun K hK => ?_; simp; refine hK _ _ ?_; clear hK K
   refine Chain.sub (S' := mk 74 [] [(0, .d (.sl (a0.map cS27))), (3, .i v122), (13, .d (.sl (a0.map cS27))), (14, .i (a0.length : Int)), (15, .i v123), (16, .b (decide (v123 < (a0.length : Int))))] []) Sub.tt ?_
   refine Chain.nil ?_
   refine AW.seq ?_
   replace h := isome h; rcases h with ⟨c251, h⟩ | ⟨c251, h⟩
   ·have c251_ : decide (v123 < (a0.length : Int)) = true := decide_eq_true c251
    refine AW.condT (b := decide (v123 < (a0.length : Int))) rfl c251_ ?_
    refine AW.sub (Sub.bool 16 (b := decide (v123 < (a0.length : Int))) rfl c251_) ?_
    refine AW.sub (S' := mk 74 [] [(0, .d (.sl (a0.map cS27))), (3, .i v122), (13, .d (.sl (a0.map cS27))), (14, .i (a0.length : Int)), (15, .i v123), (16, .b true)] []) (by simp; exact Sub.table (by simp) (by simp)) ?_
    refine AW.skip ?_
    refine thenQ_normal ?_
    refine AW.seq ?_
    refine AW.block ?_
    refine AW.seqR ?_
    replace h := bsome h; obtain ⟨x252, hx252, h⟩ := h
    obtain ⟨k253, hx252k, hx252, hx252a, hx252b⟩ := idx_some hx252
    refine Chain.runK [] 6 fun K hK => ?_; simp [hx252, hx252k, hx252a]; refine hK _ _ ?_; clear hK K
    refine Chain.sub (S' := mk 74 [] [(0, .d (.sl (a0.map cS27))), (3, .i v122), (4, .i v123), (5, .ptr 5 0 0), (13, .d (.sl (a0.map cS27))), (14, .i (a0.length : Int)), (15, .i v123)] [(5, some (.box [.i x252.Tx, .i x252.Kind, .d (.lit (.string x252.Key))]))]) Sub.tt ?_
    refine Chain.nil ?_
    refine AW.seqR ?_
    refine Chain.runK [] 1 fun K hK => ?_; simp; refine hK _ _ ?_; clear hK K
    refine Chain.sub (S' := mk 74 [] [(0, .d (.sl (a0.map cS27))), (3, .i v122), (4, .i v123), (5, .ptr 5 0 0), (6, .b true), (13, .d (.sl (a0.map cS27))), (14, .i (a0.length : Int)), (15, .i v123)] [(5, some (.box [.i x252.Tx, .i x252.Kind, .d (.lit (.string x252.Key))]))]) Sub.tt ?_
    refine Chain.nil ?_
    refine AW.seq ?_
    refine AW.seqR ?_
    replace h := bsome h; obtain ⟨n254, gn254, h⟩ := h
    obtain ⟨hn254a, hn254⟩ := natI_some gn254
    clear gn254
    subst hn254a
    replace h := lsome h; obtain ⟨l255, gl255, h⟩ := h
    have hl255 : ((a0.map cS27).take n254) = l255.map cS27 := by rw [← gl255]; simp
    clear gl255
    refine Chain.runK [] 5 fun K hK => ?_; simp [hn254, hl255]; refine hK _ _ ?_; clear hK K
    refine Chain.sub (S' := mk 74 [] [(0, .d (.sl (a0.map cS27))), (3, .i v122), (4, .i (n254 : Int)), (5, .ptr 5 0 0), (6, .b true), (13, .d (.sl (a0.map cS27))), (14, .i (a0.length : Int)), (15, .i (n254 : Int)), (22, .d (.sl (l255.map cS27))), (23, .i (l255.length : Int)), (24, .i 0)] [(5, some (.box [.i x252.Tx, .i x252.Kind, .d (.lit (.string x252.Key))]))]) Sub.tt ?_
    refine Chain.nil ?_
    refine AW.lastN (fun (v291 : Bool) => mk 74 [] [(0, .d (.sl (a0.map cS27))), (3, .i v122), (4, .i (n254 : Int)), (5, .ptr 5 0 0), (6, .b v291), (13, .d (.sl (a0.map cS27))), (14, .i (a0.length : Int)), (15, .i (n254 : Int))] [(5, some (.box [.i x252.Tx, .i x252.Kind, .d (.lit (.string x252.Key))]))]) h ?_ ?_ <;> clear h
    ·intro o h
     refine AW.block ?_
     refine AW.iter (fun ((v265, v266) : (Bool × Int)) => mk 74 [] [(0, .d (.sl (a0.map cS27))), (3, .i v122), (4, .i (n254 : Int)), (5, .ptr 5 0 0), (6, .b v265), (13, .d (.sl (a0.map cS27))), (14, .i (a0.length : Int)), (15, .i (n254 : Int)), (22, .d (.sl (l255.map cS27))), (23, .i (l255.length : Int)), (24, .i v266)] [(5, some (.box [.i x252.Tx, .i x252.Kind, .d (.lit (.string x252.Key))]))]) h Sub.tt ?_
     clear h
     rintro ⟨v265, v266⟩ x h
     dsimp only at h ⊢
     refine AW.seqR ?_
     refine Chain.runK [] 1 fun K hK => ?_; simp; refine hK _ _ ?_; clear hK K
     refine Chain.sub (S' := mk 74 [] [(0, .d (.sl (a0.map cS27))), (3, .i v122), (4, .i (n254 : Int)), (5, .ptr 5 0 0), (6, .b v265), (13, .d (.sl (a0.map cS27))), (14, .i (a0.length : Int)), (15, .i (n254 : Int)), (22, .d (.sl (l255.map cS27))), (23, .i (l255.length : Int)), (24, .i v266), (25, .b (decide (v266 < (l255.length : Int))))] [(5, some (.box [.i x252.Tx, .i x252.Kind, .d (.lit (.string x252.Key))]))]) Sub.tt ?_
     refine Chain.nil ?_
     refine AW.seq ?_
     replace h := isome h; rcases h with ⟨c292, h⟩ | ⟨c292, h⟩
     ·have c292_ : decide (v266 < (l255.length : Int)) = true := decide_eq_true c292
      refine AW.condT (b := decide (v266 < (l255.length : Int))) rfl c292_ ?_
      refine AW.sub (Sub.bool 25 (b := decide (v266 < (l255.length : Int))) rfl c292_) ?_
      refine AW.sub (S' := mk 74 [] [(0, .d (.sl (a0.map cS27))), (3, .i v122), (4, .i (n254 : Int)), (5, .ptr 5 0 0), (6, .b v265), (13, .d (.sl (a0.map cS27))), (14, .i (a0.length : Int)), (15, .i (n254 : Int)), (22, .d (.sl (l255.map cS27))), (23, .i (l255.length : Int)), (24, .i v266), (25, .b true)] [(5, some (.box [.i x252.Tx, .i x252.Kind, .d (.lit (.string x252.Key))]))]) (by simp; exact Sub.table (by simp) (by simp)) ?_
      refine AW.skip ?_
      refine thenQ_normal ?_
      refine AW.seq ?_
      refine AW.block ?_
      refine AW.seqR ?_
      replace h := bsome h; obtain ⟨x293, hx293, h⟩ := h
      obtain ⟨k294, hx293k, hx293, hx293a, hx293b⟩ := idx_some hx293
      refine Chain.runK [] 4 fun K hK => ?_; simp [hx293, hx293k, hx293a]; refine hK _ _ ?_; clear hK K
      refine Chain.sub (S' := mk 74 [] [(0, .d (.sl (a0.map cS27))), (3, .i v122), (4, .i (n254 : Int)), (5, .ptr 5 0 0), (6, .b v265), (8, .ptr 8 0 0), (13, .d (.sl (a0.map cS27))), (14, .i (a0.length : Int)), (15, .i (n254 : Int)), (22, .d (.sl (l255.map cS27))), (23, .i (l255.length : Int)), (24, .i v266)] [(5, some (.box [.i x252.Tx, .i x252.Kind, .d (.lit (.string x252.Key))])), (8, some (.box [.i x293.Tx, .i x293.Kind, .d (.lit (.string x293.Key))]))]) Sub.tt ?_
      refine Chain.nil ?_
      replace h := bsome h; obtain ⟨v298, hj, h⟩ := h
      refine AW.region (Chain.cut (mk 74 [] [(0, .d (.sl (a0.map cS27))), (3, .i v122), (4, .i (n254 : Int)), (5, .ptr 5 0 0), (6, .b v298), (13, .d (.sl (a0.map cS27))), (14, .i (a0.length : Int)), (15, .i (n254 : Int)), (22, .d (.sl (l255.map cS27))), (23, .i (l255.length : Int)), (24, .i v266)] [(5, some (.box [.i x252.Tx, .i x252.Kind, .d (.lit (.string x252.Key))]))]) ?_ fun S' hS => ?_)
      ·clear h; have h := hj; clear hj
       refine Chain.runK [] 2 fun K hK => ?_; simp; refine hK _ _ ?_; clear hK K
       refine Chain.sub (S' := mk 74 [] [(0, .d (.sl (a0.map cS27))), (3, .i v122), (4, .i (n254 : Int)), (5, .ptr 5 0 0), (8, .ptr 8 0 0), (13, .d (.sl (a0.map cS27))), (14, .i (a0.length : Int)), (15, .i (n254 : Int)), (22, .d (.sl (l255.map cS27))), (23, .i (l255.length : Int)), (24, .i v266), (29, .b v265)] [(5, some (.box [.i x252.Tx, .i x252.Kind, .d (.lit (.string x252.Key))])), (8, some (.box [.i x293.Tx, .i x293.Kind, .d (.lit (.string x293.Key))]))]) Sub.tt ?_
       replace h := isome h; rcases h with ⟨c299, h⟩ | ⟨c299, h⟩
       ·have c299_ : v265 = true := c299
        refine Chain.sub (Sub.bool 29 (b := v265) rfl c299_) ?_
        refine Chain.sub (S' := mk 74 [] [(0, .d (.sl (a0.map cS27))), (3, .i v122), (4, .i (n254 : Int)), (5, .ptr 5 0 0), (8, .ptr 8 0 0), (13, .d (.sl (a0.map cS27))), (14, .i (a0.length : Int)), (15, .i (n254 : Int)), (22, .d (.sl (l255.map cS27))), (23, .i (l255.length : Int)), (24, .i v266), (29, .b true)] [(5, some (.box [.i x252.Tx, .i x252.Kind, .d (.lit (.string x252.Key))])), (8, some (.box [.i x293.Tx, .i x293.Kind, .d (.lit (.string x293.Key))]))]) (by simp; exact Sub.table (by simp) (by simp)) ?_
        refine Chain.runK [] 7 fun K hK => ?_; simp; refine hK _ _ ?_; clear hK K
        refine Chain.sub (S' := mk 74 [] [(0, .d (.sl (a0.map cS27))), (3, .i v122), (4, .i (n254 : Int)), (5, .ptr 5 0 0), (8, .ptr 8 0 0), (13, .d (.sl (a0.map cS27))), (14, .i (a0.length : Int)), (15, .i (n254 : Int)), (22, .d (.sl (l255.map cS27))), (23, .i (l255.length : Int)), (24, .i v266), (30, .ptr 8 0 0), (31, .i x293.Tx), (32, .ptr 5 0 0), (33, .i x252.Tx), (34, .b (x293.Tx != x252.Tx)), (36, .b (x293.Tx != x252.Tx))] [(5, some (.box [.i x252.Tx, .i x252.Kind, .d (.lit (.string x252.Key))])), (8, some (.box [.i x293.Tx, .i x293.Kind, .d (.lit (.string x293.Key))]))]) Sub.tt ?_
        replace h := isome h; rcases h with ⟨c300, h⟩ | ⟨c300, h⟩
        ·have c300_ : (x293.Tx != x252.Tx) = true := c300
         refine Chain.sub (Sub.bool 34 (b := (x293.Tx != x252.Tx)) rfl c300_) ?_
         refine Chain.sub (Sub.bool 36 (b := (x293.Tx != x252.Tx)) rfl c300_) ?_
         refine Chain.sub (S' := mk 74 [] [(0, .d (.sl (a0.map cS27))), (3, .i v122), (4, .i (n254 : Int)), (5, .ptr 5 0 0), (8, .ptr 8 0 0), (13, .d (.sl (a0.map cS27))), (14, .i (a0.length : Int)), (15, .i (n254 : Int)), (22, .d (.sl (l255.map cS27))), (23, .i (l255.length : Int)), (24, .i v266), (30, .ptr 8 0 0), (31, .i x293.Tx), (32, .ptr 5 0 0), (33, .i x252.Tx), (34, .b true), (36, .b true)] [(5, some (.box [.i x252.Tx, .i x252.Kind, .d (.lit (.string x252.Key))])), (8, some (.box [.i x293.Tx, .i x293.Kind, .d (.lit (.string x293.Key))]))]) (by simp; exact Sub.table (by simp) (by simp)) ?_
         refine Chain.runK [] 2 fun K hK => ?_; simp; refine hK _ _ ?_; clear hK K
         refine Chain.sub (S' := mk 74 [] [(0, .d (.sl (a0.map cS27))), (3, .i v122), (4, .i (n254 : Int)), (5, .ptr 5 0 0), (13, .d (.sl (a0.map cS27))), (14, .i (a0.length : Int)), (15, .i (n254 : Int)), (22, .d (.sl (l255.map cS27))), (23, .i (l255.length : Int)), (24, .i v266), (30, .ptr 8 0 0), (31, .i x293.Tx), (32, .ptr 5 0 0), (33, .i x252.Tx), (34, .b true), (36, .b true), (37, .agg [.i x293.Tx, .i x293.Kind, .d (.lit (.string x293.Key))]), (38, .agg [.i x252.Tx, .i x252.Kind, .d (.lit (.string x252.Key))])] [(5, some (.box [.i x252.Tx, .i x252.Kind, .d (.lit (.string x252.Key))])), (8, some (.box [.i x293.Tx, .i x293.Kind, .d (.lit (.string x293.Key))]))]) Sub.tt ?_
         replace h := bsome h; obtain ⟨r301, hr301, h⟩ := h
         refine Chain.callL (d := 39) (p19 N x293 x252 r301 hr301) (by simp) rfl rfl (by simp <;> rfl) (by simp <;> rfl) ent19 (by simp <;> rfl) ?_
         refine Chain.sub (S' := mk 74 [] [(0, .d (.sl (a0.map cS27))), (3, .i v122), (4, .i (n254 : Int)), (5, .ptr 5 0 0), (13, .d (.sl (a0.map cS27))), (14, .i (a0.length : Int)), (15, .i (n254 : Int)), (22, .d (.sl (l255.map cS27))), (23, .i (l255.length : Int)), (24, .i v266), (30, .ptr 8 0 0), (31, .i x293.Tx), (32, .ptr 5 0 0), (33, .i x252.Tx), (34, .b true), (36, .b true), (37, .agg [.i x293.Tx, .i x293.Kind, .d (.lit (.string x293.Key))]), (38, .agg [.i x252.Tx, .i x252.Kind, .d (.lit (.string x252.Key))]), (39, .b r301)] [(5, some (.box [.i x252.Tx, .i x252.Kind, .d (.lit (.string x252.Key))])), (8, some (.box [.i x293.Tx, .i x293.Kind, .d (.lit (.string x293.Key))]))]) (by simp; exact Sub.table (by simp) (by simp)) ?_
         refine Chain.runK [] 3 fun K hK => ?_; simp; refine hK _ _ ?_; clear hK K
         refine Chain.sub (S' := mk 74 [] [(0, .d (.sl (a0.map cS27))), (3, .i v122), (4, .i (n254 : Int)), (5, .ptr 5 0 0), (6, .b (!r301)), (13, .d (.sl (a0.map cS27))), (14, .i (a0.length : Int)), (15, .i (n254 : Int)), (22, .d (.sl (l255.map cS27))), (23, .i (l255.length : Int)), (24, .i v266), (30, .ptr 8 0 0), (31, .i x293.Tx), (32, .ptr 5 0 0), (33, .i x252.Tx), (34, .b true), (37, .agg [.i x293.Tx, .i x293.Kind, .d (.lit (.string x293.Key))]), (38, .agg [.i x252.Tx, .i x252.Kind, .d (.lit (.string x252.Key))]), (39, .b r301), (40, .b (!r301))] [(5, some (.box [.i x252.Tx, .i x252.Kind, .d (.lit (.string x252.Key))])), (8, some (.box [.i x293.Tx, .i x293.Kind, .d (.lit (.string x293.Key))]))]) Sub.tt ?_
         cases h
         exact Chain.nil Sub.tt
        ·have c300_ : (x293.Tx != x252.Tx) = false := Bool.eq_false_iff.2 c300
         refine Chain.sub (Sub.bool 34 (b := (x293.Tx != x252.Tx)) rfl c300_) ?_
         refine Chain.sub (Sub.bool 36 (b := (x293.Tx != x252.Tx)) rfl c300_) ?_
         refine Chain.sub (S' := mk 74 [] [(0, .d (.sl (a0.map cS27))), (3, .i v122), (4, .i (n254 : Int)), (5, .ptr 5 0 0), (8, .ptr 8 0 0), (13, .d (.sl (a0.map cS27))), (14, .i (a0.length : Int)), (15, .i (n254 : Int)), (22, .d (.sl (l255.map cS27))), (23, .i (l255.length : Int)), (24, .i v266), (30, .ptr 8 0 0), (31, .i x293.Tx), (32, .ptr 5 0 0), (33, .i x252.Tx), (34, .b false), (36, .b false)] [(5, some (.box [.i x252.Tx, .i x252.Kind, .d (.lit (.string x252.Key))])), (8, some (.box [.i x293.Tx, .i x293.Kind, .d (.lit (.string x293.Key))]))]) (by simp; exact Sub.table (by simp) (by simp)) ?_
         refine Chain.runK [] 6 fun K hK => ?_; simp; refine hK _ _ ?_; clear hK K
         refine Chain.sub (S' := mk 74 [] [(0, .d (.sl (a0.map cS27))), (3, .i v122), (4, .i (n254 : Int)), (5, .ptr 5 0 0), (6, .b false), (13, .d (.sl (a0.map cS27))), (14, .i (a0.length : Int)), (15, .i (n254 : Int)), (22, .d (.sl (l255.map cS27))), (23, .i (l255.length : Int)), (24, .i v266), (30, .ptr 8 0 0), (31, .i x293.Tx), (32, .ptr 5 0 0), (33, .i x252.Tx), (34, .b false), (37, .tup []), (38, .tup []), (39, .tup []), (40, .tup [])] [(5, some (.box [.i x252.Tx, .i x252.Kind, .d (.lit (.string x252.Key))])), (8, some (.box [.i x293.Tx, .i x293.Kind, .d (.lit (.string x293.Key))]))]) Sub.tt ?_
         cases h
         exact Chain.nil Sub.tt
       ·have c299_ : v265 = false := Bool.eq_false_iff.2 c299
        refine Chain.sub (Sub.bool 29 (b := v265) rfl c299_) ?_
        refine Chain.sub (S' := mk 74 [] [(0, .d (.sl (a0.map cS27))), (3, .i v122), (4, .i (n254 : Int)), (5, .ptr 5 0 0), (8, .ptr 8 0 0), (13, .d (.sl (a0.map cS27))), (14, .i (a0.length : Int)), (15, .i (n254 : Int)), (22, .d (.sl (l255.map cS27))), (23, .i (l255.length : Int)), (24, .i v266), (29, .b false)] [(5, some (.box [.i x252.Tx, .i x252.Kind, .d (.lit (.string x252.Key))])), (8, some (.box [.i x293.Tx, .i x293.Kind, .d (.lit (.string x293.Key))]))]) (by simp; exact Sub.table (by simp) (by simp)) ?_
        refine Chain.runK [] 13 fun K hK => ?_; simp; refine hK _ _ ?_; clear hK K
        refine Chain.sub (S' := mk 74 [] [(0, .d (.sl (a0.map cS27))), (3, .i v122), (4, .i (n254 : Int)), (5, .ptr 5 0 0), (6, .b false), (13, .d (.sl (a0.map cS27))), (14, .i (a0.length : Int)), (15, .i (n254 : Int)), (22, .d (.sl (l255.map cS27))), (23, .i (l255.length : Int)), (24, .i v266), (30, .tup []), (31, .tup []), (32, .tup []), (33, .tup []), (34, .tup []), (37, .tup []), (38, .tup []), (39, .tup []), (40, .tup [])] [(5, some (.box [.i x252.Tx, .i x252.Kind, .d (.lit (.string x252.Key))]))]) Sub.tt ?_
        cases h
        exact Chain.nil Sub.tt
      ·clear hj
       refine blockQ.normal ?_
       refine thenQ_normal ?_
       refine AW.sub hS ?_
       refine AW.region ?_
       replace h := bsome h; obtain ⟨v302, hv302, h⟩ := h
       have hv302 := chkI_some hv302
       refine Chain.runK [] 2 fun K hK => ?_; simp [hv302]; refine hK _ _ ?_; clear hK K
       refine Chain.sub (S' := mk 74 [] [(0, .d (.sl (a0.map cS27))), (3, .i v122), (4, .i (n254 : Int)), (5, .ptr 5 0 0), (6, .b v298), (13, .d (.sl (a0.map cS27))), (14, .i (a0.length : Int)), (15, .i (n254 : Int)), (22, .d (.sl (l255.map cS27))), (23, .i (l255.length : Int)), (24, .i v302)] [(5, some (.box [.i x252.Tx, .i x252.Kind, .d (.lit (.string x252.Key))]))]) Sub.tt ?_
       refine Chain.nil ?_
       cases h
       refine PostI.next ?_
       exact Sub.tt
     ·have c292_ : decide (v266 < (l255.length : Int)) = false := decide_eq_false c292
      refine AW.condF (b := decide (v266 < (l255.length : Int))) rfl c292_ ?_
      refine AW.sub (Sub.bool 25 (b := decide (v266 < (l255.length : Int))) rfl c292_) ?_
      refine AW.sub (S' := mk 74 [] [(0, .d (.sl (a0.map cS27))), (3, .i v122), (4, .i (n254 : Int)), (5, .ptr 5 0 0), (6, .b v265), (13, .d (.sl (a0.map cS27))), (14, .i (a0.length : Int)), (15, .i (n254 : Int)), (22, .d (.sl (l255.map cS27))), (23, .i (l255.length : Int)), (24, .i v266), (25, .b false)] [(5, some (.box [.i x252.Tx, .i x252.Kind, .d (.lit (.string x252.Key))]))]) (by simp; exact Sub.table (by simp) (by simp)) ?_
      refine AW.exit ?_
      cases h
      refine thenQ_pass (by simp) ?_
      refine PostI.out (by simp) ?_
      rintro rfl
      refine blockQ.hit ?_
      refine PostN.next ?_
      exact Sub.tt
    ·rintro v291 h
     refine thenQ_normal ?_
     replace h := bsome h; obtain ⟨v306, hj, h⟩ := h
     refine AW.cutQ (by kernel_rfl) (by kernel_rfl) (mk 74 [] [(0, .d (.sl (a0.map cS27))), (3, .i v122), (4, .i (n254 : Int)), (13, .d (.sl (a0.map cS27))), (14, .i (a0.length : Int)), (15, .i (n254 : Int)), (53, .b v306)] []) ?_ ?_
     ·clear h; have h := hj; clear hj
      refine Chain.runQ 2 fun K hK => ?_; simp; refine hK _ _ ?_; clear hK K
      refine Chain.sub (S' := mk 74 [] [(0, .d (.sl (a0.map cS27))), (3, .i v122), (4, .i (n254 : Int)), (5, .ptr 5 0 0), (13, .d (.sl (a0.map cS27))), (14, .i (a0.length : Int)), (15, .i (n254 : Int)), (44, .b v291)] [(5, some (.box [.i x252.Tx, .i x252.Kind, .d (.lit (.string x252.Key))]))]) Sub.tt ?_
      replace h := isome h; rcases h with ⟨c307, h⟩ | ⟨c307, h⟩
      ·have c307_ : v291 = true := c307
       refine Chain.sub (Sub.bool 44 (b := v291) rfl c307_) ?_
       refine Chain.sub (S' := mk 74 [] [(0, .d (.sl (a0.map cS27))), (3, .i v122), (4, .i (n254 : Int)), (5, .ptr 5 0 0), (13, .d (.sl (a0.map cS27))), (14, .i (a0.length : Int)), (15, .i (n254 : Int)), (44, .b true)] [(5, some (.box [.i x252.Tx, .i x252.Kind, .d (.lit (.string x252.Key))]))]) (by simp; exact Sub.table (by simp) (by simp)) ?_
       replace h := bsome h; obtain ⟨x308, hx308, h⟩ := h
       obtain ⟨k309, hx308k, hx308, hx308a, hx308b⟩ := idx_some hx308
       refine Chain.runQ 9 fun K hK => ?_; simp [hx308, hx308k, hx308a]; refine hK _ _ ?_; clear hK K
       refine Chain.sub (S' := mk 74 [] [(0, .d (.sl (a0.map cS27))), (3, .i v122), (4, .i (n254 : Int)), (13, .d (.sl (a0.map cS27))), (14, .i (a0.length : Int)), (15, .i (n254 : Int)), (45, .ptr 5 0 0), (46, .i x252.Tx), (47, .d (.sl (a0.map cS27))), (48, .i v122), (49, .d (.pim [.lit (.int .i64 x308.Tx), .lit (.int .i64 x308.Kind), .lit (.string x308.Key)])), (50, .d (.pim [.lit (.int .i64 x308.Tx), .lit (.int .i64 x308.Kind), .lit (.string x308.Key)])), (51, .i x308.Tx), (52, .b (decide (x252.Tx < x308.Tx))), (53, .b (decide (x252.Tx < x308.Tx)))] [(5, some (.box [.i x252.Tx, .i x252.Kind, .d (.lit (.string x252.Key))]))]) Sub.tt ?_
       cases h
       exact Chain.nil Sub.tt
      ·have c307_ : v291 = false := Bool.eq_false_iff.2 c307
       refine Chain.sub (Sub.bool 44 (b := v291) rfl c307_) ?_
       refine Chain.sub (S' := mk 74 [] [(0, .d (.sl (a0.map cS27))), (3, .i v122), (4, .i (n254 : Int)), (5, .ptr 5 0 0), (13, .d (.sl (a0.map cS27))), (14, .i (a0.length : Int)), (15, .i (n254 : Int)), (44, .b false)] [(5, some (.box [.i x252.Tx, .i x252.Kind, .d (.lit (.string x252.Key))]))]) (by simp; exact Sub.table (by simp) (by simp)) ?_
       refine Chain.runQ 9 fun K hK => ?_; simp; refine hK _ _ ?_; clear hK K
       refine Chain.sub (S' := mk 74 [] [(0, .d (.sl (a0.map cS27))), (3, .i v122), (4, .i (n254 : Int)), (13, .d (.sl (a0.map cS27))), (14, .i (a0.length : Int)), (15, .i (n254 : Int)), (45, .tup []), (46, .tup []), (47, .tup []), (48, .tup []), (49, .tup []), (50, .tup []), (51, .tup []), (52, .tup []), (53, .b false)] []) Sub.tt ?_
       cases h
       exact Chain.nil Sub.tt
     ·clear hj
      replace h := isome h; rcases h with ⟨c310, h⟩ | ⟨c310, h⟩
      ·have c310_ : v306 = true := c310
       refine AW.condT (b := v306) rfl c310_ ?_
       refine AW.sub (Sub.bool 53 (b := v306) rfl c310_) ?_
       refine AW.sub (S' := mk 74 [] [(0, .d (.sl (a0.map cS27))), (3, .i v122), (4, .i (n254 : Int)), (13, .d (.sl (a0.map cS27))), (14, .i (a0.length : Int)), (15, .i (n254 : Int)), (53, .b true)] []) (by simp; exact Sub.table (by simp) (by simp)) ?_
       refine AW.region ?_
       refine Chain.runK [] 2 fun K hK => ?_; simp; refine hK _ _ ?_; clear hK K
       refine Chain.sub (S' := mk 74 [] [(0, .d (.sl (a0.map cS27))), (3, .i (n254 : Int)), (13, .d (.sl (a0.map cS27))), (14, .i (a0.length : Int)), (15, .i (n254 : Int))] []) Sub.tt ?_
       refine Chain.nil ?_
       refine blockQ.normal ?_
       refine thenQ_normal ?_
       refine AW.region ?_
       replace h := bsome h; obtain ⟨v311, hv311, h⟩ := h
       have hv311 := chkI_some hv311
       refine Chain.runK [] 2 fun K hK => ?_; simp [hv311]; refine hK _ _ ?_; clear hK K
       refine Chain.sub (S' := mk 74 [] [(0, .d (.sl (a0.map cS27))), (3, .i (n254 : Int)), (13, .d (.sl (a0.map cS27))), (14, .i (a0.length : Int)), (15, .i v311)] []) Sub.tt ?_
       refine Chain.nil ?_
       cases h
       refine PostI.next ?_
       exact Sub.tt
      ·have c310_ : v306 = false := Bool.eq_false_iff.2 c310
       refine AW.condF (b := v306) rfl c310_ ?_
       refine AW.sub (Sub.bool 53 (b := v306) rfl c310_) ?_
       refine AW.sub (S' := mk 74 [] [(0, .d (.sl (a0.map cS27))), (3, .i v122), (4, .i (n254 : Int)), (13, .d (.sl (a0.map cS27))), (14, .i (a0.length : Int)), (15, .i (n254 : Int)), (53, .b false)] []) (by simp; exact Sub.table (by simp) (by simp)) ?_
       refine AW.skip ?_
       refine blockQ.normal ?_
       refine thenQ_normal ?_
       refine AW.region ?_
       replace h := bsome h; obtain ⟨v312, hv312, h⟩ := h
       have hv312 := chkI_some hv312
       refine Chain.runK [] 2 fun K hK => ?_; simp [hv312]; refine hK _ _ ?_; clear hK K
       refine Chain.sub (S' := mk 74 [] [(0, .d (.sl (a0.map cS27))), (3, .i v122), (13, .d (.sl (a0.map cS27))), (14, .i (a0.length : Int)), (15, .i v312)] []) Sub.tt ?_
       refine Chain.nil ?_
       cases h
       refine PostI.next ?_
       exact Sub.tt
   ·have c251_ : decide (v123 < (a0.length : Int)) = false := decide_eq_false c251
    refine AW.condF (b := decide (v123 < (a0.length : Int))) rfl c251_ ?_
    refine AW.sub (Sub.bool 16 (b := decide (v123 < (a0.length : Int))) rfl c251_) ?_
    refine AW.sub (S' := mk 74 [] [(0, .d (.sl (a0.map cS27))), (3, .i v122), (13, .d (.sl (a0.map cS27))), (14, .i (a0.length : Int)), (15, .i v123), (16, .b false)] []) (by simp; exact Sub.table (by simp) (by simp)) ?_
    refine AW.exit ?_
    cases h
    refine thenQ_pass (by simp) ?_
    refine PostI.out (by simp) ?_
    rintro rfl
    refine blockQ.hit ?_
    refine PostN.next ?_
    exact Sub.tt
  ·rintro v250 h
   refine thenQ_normal ?_
   replace h := bsome h; obtain ⟨n313, gn313, h⟩ := h
   obtain ⟨hn313a, hn313⟩ := natI_some gn313
   clear gn313
   subst hn313a
   replace h := lsome h; obtain ⟨l314, gl314, h⟩ := h
   have hl314 : ((a0.map cS27).take n313) = l314.map cS27 := by rw [← gl314]; simp
   clear gl314
   replace h := bsome h; obtain ⟨l315, hl315, h⟩ := h
   obtain ⟨hl315a, hl315⟩ := appL_some hl315
   subst hl315
   try simp only [List.length_nil, Nat.zero_add] at hl315a
   replace h := bsome h; obtain ⟨v316, hv316, h⟩ := h
   have hv316 := chkI_some hv316
   replace h := bsome h; obtain ⟨n317, gn317, h⟩ := h
   obtain ⟨hn317a, hn317⟩ := natI_some gn317
   clear gn317
   subst hn317a
   replace h := lsome h; obtain ⟨l318, gl318, h⟩ := h
   have hl318 : ((a0.map cS27).drop n317) = l318.map cS27 := by rw [← gl318]; simp
   clear gl318
   replace h := bsome h; obtain ⟨l319, hl319, h⟩ := h
   obtain ⟨hl319a, hl319⟩ := appL_some hl319
   subst hl319
   try simp only [List.length_append, List.length_cons, List.length_nil, Nat.zero_add, Nat.mul_one] at hl319a
   refine AW.seqAnyS [[], [], [], [1, 2], [0, 1, 2, 3], [], [], [6], [5, 6, 7], [0, 1, 2, 3, 4, 5, 6, 7, 8], [0, 1, 2, 3, 4, 5, 6, 7, 8, 9]] (fun (b : Nat → Bool) => mk 74 [] [(0, .d (.sl (a0.map cS27))), (3, .i (n313 : Int)), (9, (if b 10 then .ref 56 0 ((l314 ++ l318).length) else .junk)), (56, (if b 4 then .junk else (if b 0 then .ref 56 0 (([] : List S27).length) else .junk))), (57, (if b 1 then .d (.sl (a0.map cS27)) else .junk)), (58, (if b 2 then .i (n313 : Int) else .junk)), (59, (if b 3 then .d (.sl (l314.map cS27)) else .junk)), (60, (if b 9 then .junk else (if b 4 then .ref 56 0 l314.length else .junk))), (61, (if b 5 then .d (.sl (a0.map cS27)) else .junk)), (62, (if b 6 then .i (n313 : Int) else .junk)), (63, (if b 7 then .i (n317 : Int) else .junk)), (64, (if b 8 then .d (.sl (l318.map cS27)) else .junk)), (65, (if b 9 then .ref 56 0 ((l314 ++ l318).length) else .junk))] [(56, (if b 9 then R34 (l314 ++ l318) else (if b 4 then R34 l314 else (if b 0 then R34 ([] : List S27) else none))))]) (mk 74 [] [(0, .d (.sl (a0.map cS27))), (3, .i (n313 : Int)), (9, .ref 56 0 ((l314 ++ l318).length))] [(56, R34 (l314 ++ l318))]) (by kernel_rfl) (by kernel_rfl) Sub.tt (Steps.cons ?_ (Steps.cons ?_ (Steps.cons ?_ (Steps.cons ?_ (Steps.cons ?_ (Steps.cons ?_ (Steps.cons ?_ (Steps.cons ?_ (Steps.cons ?_ (Steps.cons ?_ (Steps.cons ?_ (Steps.nil)))))))))))) ?_ ?_
   ·intro b h0 ha hd
    have f4 : b 4 = false := hd 4 (by decide)
    have f9 : b 9 = false := hd 9 (by decide)
    have f10 : b 10 = false := hd 10 (by decide)
    refine Chain.runK [] 1 fun K hK => ?_; simp [h0, f4, f9, f10]; refine hK _ _ ?_; clear hK K
    exact Chain.nil (Sub.table (by simp [f4, f9, f10]) (by simp [f4, f9]))
   ·intro b h0 ha hd
    have f3 : b 3 = false := hd 3 (by decide)
    have f4 : b 4 = false := hd 4 (by decide)
    have f9 : b 9 = false := hd 9 (by decide)
    have f10 : b 10 = false := hd 10 (by decide)
    refine Chain.runK [] 1 fun K hK => ?_; simp [h0, f3, f4, f9, f10]; refine hK _ _ ?_; clear hK K
    exact Chain.nil (Sub.table (by simp [f3, f4, f9, f10]) (by simp [f4, f9]))
   ·intro b h0 ha hd
    have f3 : b 3 = false := hd 3 (by decide)
    have f4 : b 4 = false := hd 4 (by decide)
    have f9 : b 9 = false := hd 9 (by decide)
    have f10 : b 10 = false := hd 10 (by decide)
    refine Chain.runK [] 1 fun K hK => ?_; simp [h0, f3, f4, f9, f10]; refine hK _ _ ?_; clear hK K
    exact Chain.nil (Sub.table (by simp [f3, f4, f9, f10]) (by simp [f4, f9]))
   ·intro b h0 ha hd
    have t1 : b 1 = true := ha 1 (by decide)
    have t2 : b 2 = true := ha 2 (by decide)
    have f4 : b 4 = false := hd 4 (by decide)
    have f9 : b 9 = false := hd 9 (by decide)
    have f10 : b 10 = false := hd 10 (by decide)
    refine Chain.runK [] 1 fun K hK => ?_; simp [h0, t1, t2, f4, f9, f10, hn313, hl314]; refine hK _ _ ?_; clear hK K
    exact Chain.nil (Sub.table (by simp [t1, t2, f4, f9, f10]) (by simp [f4, f9]))
   ·intro b h0 ha hd
    have t0 : b 0 = true := ha 0 (by decide)
    have t1 : b 1 = true := ha 1 (by decide)
    have t2 : b 2 = true := ha 2 (by decide)
    have t3 : b 3 = true := ha 3 (by decide)
    have f9 : b 9 = false := hd 9 (by decide)
    have f10 : b 10 = false := hd 10 (by decide)
    refine Chain.runK [] 1 fun K hK => ?_; simp [h0, t0, t1, t2, t3, f9, f10, hl315a]; refine hK _ _ ?_; clear hK K
    exact Chain.nil (Sub.table (by simp [t1, t2, t3, f9, f10]) (by simp [f9]))
   ·intro b h0 ha hd
    have f8 : b 8 = false := hd 8 (by decide)
    have f9 : b 9 = false := hd 9 (by decide)
    have f10 : b 10 = false := hd 10 (by decide)
    refine Chain.runK [] 1 fun K hK => ?_; simp [h0, f8, f9, f10]; refine hK _ _ ?_; clear hK K
    exact Chain.nil (Sub.table (by simp [f8, f9, f10]) (by simp [f9]))
   ·intro b h0 ha hd
    have f7 : b 7 = false := hd 7 (by decide)
    have f8 : b 8 = false := hd 8 (by decide)
    have f9 : b 9 = false := hd 9 (by decide)
    have f10 : b 10 = false := hd 10 (by decide)
    refine Chain.runK [] 1 fun K hK => ?_; simp [h0, f7, f8, f9, f10]; refine hK _ _ ?_; clear hK K
    exact Chain.nil (Sub.table (by simp [f7, f8, f9, f10]) (by simp [f9]))
   ·intro b h0 ha hd
    have t6 : b 6 = true := ha 6 (by decide)
    have f8 : b 8 = false := hd 8 (by decide)
    have f9 : b 9 = false := hd 9 (by decide)
    have f10 : b 10 = false := hd 10 (by decide)
    refine Chain.runK [] 1 fun K hK => ?_; simp [h0, t6, f8, f9, f10, hv316]; refine hK _ _ ?_; clear hK K
    exact Chain.nil (Sub.table (by simp [t6, f8, f9, f10]) (by simp [f9]))
   ·intro b h0 ha hd
    have t5 : b 5 = true := ha 5 (by decide)
    have t6 : b 6 = true := ha 6 (by decide)
    have t7 : b 7 = true := ha 7 (by decide)
    have f9 : b 9 = false := hd 9 (by decide)
    have f10 : b 10 = false := hd 10 (by decide)
    refine Chain.runK [] 1 fun K hK => ?_; simp [h0, t5, t6, t7, f9, f10, hn317, hl318]; refine hK _ _ ?_; clear hK K
    exact Chain.nil (Sub.table (by simp [t5, t6, t7, f9, f10]) (by simp [f9]))
   ·intro b h0 ha hd
    have t0 : b 0 = true := ha 0 (by decide)
    have t1 : b 1 = true := ha 1 (by decide)
    have t2 : b 2 = true := ha 2 (by decide)
    have t3 : b 3 = true := ha 3 (by decide)
    have t4 : b 4 = true := ha 4 (by decide)
    have t5 : b 5 = true := ha 5 (by decide)
    have t6 : b 6 = true := ha 6 (by decide)
    have t7 : b 7 = true := ha 7 (by decide)
    have t8 : b 8 = true := ha 8 (by decide)
    have f10 : b 10 = false := hd 10 (by decide)
    refine Chain.runK [] 1 fun K hK => ?_; simp [h0, t1, t2, t3, t4, t5, t6, t7, t8, f10, hl319a]; refine hK _ _ ?_; clear hK K
    exact Chain.nil (Sub.table (by simp [t1, t2, t3, t4, t5, t6, t7, t8, f10]) (by simp))
   ·intro b h0 ha hd
    have t0 : b 0 = true := ha 0 (by decide)
    have t1 : b 1 = true := ha 1 (by decide)
    have t2 : b 2 = true := ha 2 (by decide)
    have t3 : b 3 = true := ha 3 (by decide)
    have t4 : b 4 = true := ha 4 (by decide)
    have t5 : b 5 = true := ha 5 (by decide)
    have t6 : b 6 = true := ha 6 (by decide)
    have t7 : b 7 = true := ha 7 (by decide)
    have t8 : b 8 = true := ha 8 (by decide)
    have t9 : b 9 = true := ha 9 (by decide)
    refine Chain.runK [] 1 fun K hK => ?_; simp [h0, t1, t2, t3, t4, t5, t6, t7, t8, t9]; refine hK _ _ ?_; clear hK K
    exact Chain.nil (Sub.table (by simp [t1, t2, t3, t4, t5, t6, t7, t8, t9]) (by simp [t9]))
   ·intro b hb
    have t0 := hb 0 (by decide)
    have t1 := hb 1 (by decide)
    have t2 := hb 2 (by decide)
    have t3 := hb 3 (by decide)
    have t4 := hb 4 (by decide)
    have t5 := hb 5 (by decide)
    have t6 := hb 6 (by decide)
    have t7 := hb 7 (by decide)
    have t8 := hb 8 (by decide)
    have t9 := hb 9 (by decide)
    have t10 := hb 10 (by decide)
    exact Sub.table (by simp [t1, t2, t3, t4, t5, t6, t7, t8, t9, t10]) (by simp [t9])
   ·skip
    refine AW.sub (Sub.freeze 56 rfl) ?_
    refine AW.sub (S' := mk 74 [] [(0, .d (.sl (a0.map cS27))), (3, .i (n313 : Int)), (9, .d (.sl ((l314 ++ l318).map cS27)))] []) (by simp; exact Sub.table (by simp) (by simp)) ?_
    replace h := bsome h; obtain ⟨x322, hx322, h⟩ := h
    obtain ⟨k323, hx322k, hx322, hx322a, hx322b⟩ := idx_some hx322
    replace h := bsome h; obtain ⟨r324, hr324, h⟩ := h
    replace h := bsome h; obtain ⟨l325, hl325, h⟩ := h
    obtain ⟨hl325a, hl325⟩ := appL_some hl325
    subst hl325
    try simp only [List.length_cons, List.length_nil, Nat.zero_add] at hl325a
    refine AW.seqAnyS [[], [], [0, 1], [0, 1, 2], [0, 1, 2, 3], [], [5], [0, 1, 2, 3, 4, 5, 6], [0, 1, 2, 3, 4, 5, 6, 7]] (fun (b : Nat → Bool) => mk 74 [] [(0, .d (.sl (a0.map cS27))), (2, (if b 8 then .ref 70 0 ((([x322] : List S27) ++ r324).length) else .junk)), (3, .i (n313 : Int)), (9, .d (.sl ((l314 ++ l318).map cS27))), (66, (if b 0 then .d (.sl (a0.map cS27)) else .junk)), (67, (if b 1 then .i (n313 : Int) else .junk)), (68, (if b 2 then .d (.pim [.lit (.int .i64 x322.Tx), .lit (.int .i64 x322.Kind), .lit (.string x322.Key)]) else .junk)), (69, (if b 3 then .agg [.i x322.Tx, .i x322.Kind, .d (.lit (.string x322.Key))] else .junk)), (70, (if b 7 then .junk else (if b 4 then .ref 70 0 (([x322] : List S27).length) else .junk))), (71, (if b 5 then .d (.sl ((l314 ++ l318).map cS27)) else .junk)), (72, (if b 6 then .d (.sl (r324.map cS27)) else .junk)), (73, (if b 7 then .ref 70 0 ((([x322] : List S27) ++ r324).length) else .junk))] [(70, (if b 7 then R34 (([x322] : List S27) ++ r324) else (if b 4 then R34 ([x322] : List S27) else none)))]) (mk 74 [] [(2, .ref 70 0 ((([x322] : List S27) ++ r324).length))] [(70, R34 (([x322] : List S27) ++ r324))]) (by kernel_rfl) (by kernel_rfl) Sub.tt (Steps.cons ?_ (Steps.cons ?_ (Steps.cons ?_ (Steps.cons ?_ (Steps.cons ?_ (Steps.cons ?_ (Steps.cons ?_ (Steps.cons ?_ (Steps.cons ?_ (Steps.nil)))))))))) ?_ ?_
    ·intro b h0 ha hd
     have f2 : b 2 = false := hd 2 (by decide)
     have f3 : b 3 = false := hd 3 (by decide)
     have f4 : b 4 = false := hd 4 (by decide)
     have f7 : b 7 = false := hd 7 (by decide)
     have f8 : b 8 = false := hd 8 (by decide)
     refine Chain.runK [] 1 fun K hK => ?_; simp [h0, f2, f3, f4, f7, f8]; refine hK _ _ ?_; clear hK K
     exact Chain.nil (Sub.table (by simp [f2, f3, f4, f7, f8]) (by simp [f4, f7]))
    ·intro b h0 ha hd
     have f2 : b 2 = false := hd 2 (by decide)
     have f3 : b 3 = false := hd 3 (by decide)
     have f4 : b 4 = false := hd 4 (by decide)
     have f7 : b 7 = false := hd 7 (by decide)
     have f8 : b 8 = false := hd 8 (by decide)
     refine Chain.runK [] 1 fun K hK => ?_; simp [h0, f2, f3, f4, f7, f8]; refine hK _ _ ?_; clear hK K
     exact Chain.nil (Sub.table (by simp [f2, f3, f4, f7, f8]) (by simp [f4, f7]))
    ·intro b h0 ha hd
     have t0 : b 0 = true := ha 0 (by decide)
     have t1 : b 1 = true := ha 1 (by decide)
     have f3 : b 3 = false := hd 3 (by decide)
     have f4 : b 4 = false := hd 4 (by decide)
     have f7 : b 7 = false := hd 7 (by decide)
     have f8 : b 8 = false := hd 8 (by decide)
     refine Chain.runK [] 1 fun K hK => ?_; simp [h0, t0, t1, f3, f4, f7, f8, hx322, hx322k, hx322a]; refine hK _ _ ?_; clear hK K
     exact Chain.nil (Sub.table (by simp [t0, t1, f3, f4, f7, f8]) (by simp [f4, f7]))
    ·intro b h0 ha hd
     have t0 : b 0 = true := ha 0 (by decide)
     have t1 : b 1 = true := ha 1 (by decide)
     have t2 : b 2 = true := ha 2 (by decide)
     have f4 : b 4 = false := hd 4 (by decide)
     have f7 : b 7 = false := hd 7 (by decide)
     have f8 : b 8 = false := hd 8 (by decide)
     refine Chain.runK [] 1 fun K hK => ?_; simp [h0, t0, t1, t2, f4, f7, f8]; refine hK _ _ ?_; clear hK K
     exact Chain.nil (Sub.table (by simp [t0, t1, t2, f4, f7, f8]) (by simp [f4, f7]))
    ·intro b h0 ha hd
     have t0 : b 0 = true := ha 0 (by decide)
     have t1 : b 1 = true := ha 1 (by decide)
     have t2 : b 2 = true := ha 2 (by decide)
     have t3 : b 3 = true := ha 3 (by decide)
     have f7 : b 7 = false := hd 7 (by decide)
     have f8 : b 8 = false := hd 8 (by decide)
     refine Chain.runK [] 1 fun K hK => ?_; simp [h0, t0, t1, t2, t3, f7, f8]; refine hK _ _ ?_; clear hK K
     exact Chain.nil (Sub.table (by simp [t0, t1, t2, t3, f7, f8]) (by simp [f7]))
    ·intro b h0 ha hd
     have f6 : b 6 = false := hd 6 (by decide)
     have f7 : b 7 = false := hd 7 (by decide)
     have f8 : b 8 = false := hd 8 (by decide)
     refine Chain.runK [] 1 fun K hK => ?_; simp [h0, f6, f7, f8]; refine hK _ _ ?_; clear hK K
     exact Chain.nil (Sub.table (by simp [f6, f7, f8]) (by simp [f7]))
    ·intro b h0 ha hd
     have t5 : b 5 = true := ha 5 (by decide)
     have f7 : b 7 = false := hd 7 (by decide)
     have f8 : b 8 = false := hd 8 (by decide)
     simp only [h0, t5, f7, f8, if_true, if_false, Bool.false_eq_true]
     refine Chain.callC (d := 72) (ih (l314 ++ l318) r324 hr324) (by simp) rfl rfl (by simp <;> rfl) (by simp <;> rfl) ent23 (by simp) (.inl ⟨by simp, by simp⟩) ?_
     cases q4 : b 4 <;> exact Chain.nil (by simp [t5, f7, f8, q4]; exact Sub.table (by simp) (by simp))
    ·intro b h0 ha hd
     have t0 : b 0 = true := ha 0 (by decide)
     have t1 : b 1 = true := ha 1 (by decide)
     have t2 : b 2 = true := ha 2 (by decide)
     have t3 : b 3 = true := ha 3 (by decide)
     have t4 : b 4 = true := ha 4 (by decide)
     have t5 : b 5 = true := ha 5 (by decide)
     have t6 : b 6 = true := ha 6 (by decide)
     have f8 : b 8 = false := hd 8 (by decide)
     refine Chain.runK [] 1 fun K hK => ?_; simp [h0, t0, t1, t2, t3, t4, t5, t6, f8, hl325a]; refine hK _ _ ?_; clear hK K
     exact Chain.nil (Sub.table (by simp [t0, t1, t2, t3, t5, t6, f8, Nat.add_comm 1]) (by simp))
    ·intro b h0 ha hd
     have t0 : b 0 = true := ha 0 (by decide)
     have t1 : b 1 = true := ha 1 (by decide)
     have t2 : b 2 = true := ha 2 (by decide)
     have t3 : b 3 = true := ha 3 (by decide)
     have t4 : b 4 = true := ha 4 (by decide)
     have t5 : b 5 = true := ha 5 (by decide)
     have t6 : b 6 = true := ha 6 (by decide)
     have t7 : b 7 = true := ha 7 (by decide)
     refine Chain.runK [] 1 fun K hK => ?_; simp [h0, t0, t1, t2, t3, t5, t6, t7]; refine hK _ _ ?_; clear hK K
     exact Chain.nil (Sub.table (by simp [t0, t1, t2, t3, t5, t6, t7]) (by simp [t7]))
    ·intro b hb
     have t0 := hb 0 (by decide)
     have t1 := hb 1 (by decide)
     have t2 := hb 2 (by decide)
     have t3 := hb 3 (by decide)
     have t4 := hb 4 (by decide)
     have t5 := hb 5 (by decide)
     have t6 := hb 6 (by decide)
     have t7 := hb 7 (by decide)
     have t8 := hb 8 (by decide)
     exact Sub.table (by simp [t0, t1, t2, t3, t5, t6, t7, t8]) (by simp [t7])
    ·skip
     refine AW.sub (Sub.freeze 70 rfl) ?_
     refine AW.sub (S' := mk 74 [] [(2, .d (.sl ((([x322] : List S27) ++ r324).map cS27)))] []) (by simp; exact Sub.table (by simp) (by simp)) ?_
     refine AW.ret ?_
     cases h
     exact FinC.ret (by simp) (by simp)

/-- stemma/stemref5.TransactionsOf -/
def d25 (N : Nat) (a0 : (List S27)) : Option (List Int) :=
 Option.bind (α := List Int) (
  iterN (σ := ((List Int) × Int)) (ρ := List Int) (fun ((l29, v30) : ((List Int) × Int)) =>
   if v30 < 20 then (
    Option.bind (α := List Int) (
     iterN (σ := Int) (ρ := List Int) (fun (v96 : Int) =>
      if v96 < (a0.length : Int) then (
       (idx a0 v96).bind fun x112 =>
       if (x112.Tx == v30) then (
        (appL 8 l29 [v30]).bind fun _l115 =>
        some (.inr (l29 ++ [v30]))
       ) else
       (chkI (v96 + 1)).bind fun v116 =>
       some (.inl v116)
      ) else
      some (.inr l29)
     ) N 0
    ) fun (l110 : List Int) =>
    (chkI (v30 + 1)).bind fun v117 =>
    some (.inl (l110, v117))
   ) else
   some (.inr l29)
  ) N (([] : List Int), 0)
 ) fun (l89 : List Int) =>
 some l89
set_option maxRecDepth 100000 in
set_option maxHeartbeats 4000000 in
theorem p25 (N : Nat) (a0 : (List S27)) (r : (List Int)) (h : d25 N a0 = some r) : FunC Try.prog 25 [.d (.sl (a0.map cS27))] (.d (.sl (r.map (cI .i64)))) := by
 unfold d25 at h
 refine FunC.enter 27 [(0, .d (.sl (a0.map cS27)))] (by simp) Try.func25 rfl (of_decide_eq_true rfl) rfl rfl ?_
 refine AW.seqR ?_
 refine Chain.runK [] 1 fun K hK => ?_; simp; refine hK _ _ ?_; clear hK K
 refine Chain.sub (S' := mk 27 [] [(0, .d (.sl (a0.map cS27)))] []) Sub.tt ?_
 refine Chain.nil ?_
 refine AW.seqR ?_
 refine Chain.runK [] 1 fun K hK => ?_; simp; refine hK _ _ ?_; clear hK K
 refine Chain.sub (S' := mk 27 [] [(0, .d (.sl (a0.map cS27))), (3, .d (.lit (.slice none 0 0)))] []) Sub.tt ?_
 refine Chain.nil ?_
 refine AW.seq ?_
 refine AW.seqR ?_
 refine Chain.runK [] 1 fun K hK => ?_; simp; refine hK _ _ ?_; clear hK K
 refine Chain.sub (S' := mk 27 [] [(0, .d (.sl (a0.map cS27))), (3, .d (.lit (.slice none 0 0))), (7, .i 0)] []) Sub.tt ?_
 refine Chain.nil ?_
 refine AW.lastN (fun (l89 : List Int) => mk 27 [] [(3, .ref 23 0 l89.length)] [(23, R3 l89)]) h ?_ ?_ <;> clear h
 ·intro o h
  refine AW.block ?_
  refine AW.iter (fun ((l29, v30) : ((List Int) × Int)) => mk 27 [] [(0, .d (.sl (a0.map cS27))), (3, .ref 23 0 l29.length), (7, .i v30)] [(23, R3 l29)]) h (Sub.trans (Sub.nilOwn (t := 3) (id := 23) (T := 3) (n := 1) rfl rfl (by decide)) (by simp; exact Sub.table (by simp) (by simp))) ?_
  clear h
  rintro ⟨l29, v30⟩ x h
  dsimp only at h ⊢
  refine AW.seqR ?_
  refine Chain.runK [] 1 fun K hK => ?_; simp; refine hK _ _ ?_; clear hK K
  refine Chain.sub (S' := mk 27 [] [(0, .d (.sl (a0.map cS27))), (3, .ref 23 0 l29.length), (7, .i v30), (8, .b (decide (v30 < 20)))] [(23, R3 l29)]) Sub.tt ?_
  refine Chain.nil ?_
  refine AW.seq ?_
  replace h := isome h; rcases h with ⟨c90, h⟩ | ⟨c90, h⟩
  ·have c90_ : decide (v30 < 20) = true := decide_eq_true c90
   refine AW.condT (b := decide (v30 < 20)) rfl c90_ ?_
   refine AW.sub (Sub.bool 8 (b := decide (v30 < 20)) rfl c90_) ?_
   refine AW.sub (S' := mk 27 [] [(0, .d (.sl (a0.map cS27))), (3, .ref 23 0 l29.length), (7, .i v30), (8, .b true)] [(23, R3 l29)]) (by simp; exact Sub.table (by simp) (by simp)) ?_
   refine AW.skip ?_
   refine thenQ_normal ?_
   refine AW.seq ?_
   refine AW.block ?_
   refine AW.seqR ?_
   refine Chain.runK [] 2 fun K hK => ?_; simp; refine hK _ _ ?_; clear hK K
   refine Chain.sub (S' := mk 27 [] [(0, .d (.sl (a0.map cS27))), (3, .ref 23 0 l29.length), (4, .i v30), (7, .i v30)] [(23, R3 l29)]) Sub.tt ?_
   refine Chain.nil ?_
   refine AW.seqR ?_
   refine Chain.runK [] 3 fun K hK => ?_; simp; refine hK _ _ ?_; clear hK K
   refine Chain.sub (S' := mk 27 [] [(0, .d (.sl (a0.map cS27))), (3, .ref 23 0 l29.length), (4, .i v30), (7, .i v30), (10, .d (.sl (a0.map cS27))), (11, .i (a0.length : Int)), (12, .i 0)] [(23, R3 l29)]) Sub.tt ?_
   refine Chain.nil ?_
   refine AW.lastN (fun (l110 : List Int) => mk 27 [] [(0, .d (.sl (a0.map cS27))), (3, .ref 23 0 l110.length), (7, .i v30)] [(23, R3 l110)]) h ?_ ?_ <;> clear h
   ·intro o h
    refine AW.block ?_
    refine AW.iter (fun (v96 : Int) => mk 27 [] [(0, .d (.sl (a0.map cS27))), (3, .ref 23 0 l29.length), (4, .i v30), (7, .i v30), (10, .d (.sl (a0.map cS27))), (11, .i (a0.length : Int)), (12, .i v96)] [(23, R3 l29)]) h Sub.tt ?_
    clear h
    rintro v96 x h
    refine AW.seqR ?_
    refine Chain.runK [] 1 fun K hK => ?_; simp; refine hK _ _ ?_; clear hK K
    refine Chain.sub (S' := mk 27 [] [(0, .d (.sl (a0.map cS27))), (3, .ref 23 0 l29.length), (4, .i v30), (7, .i v30), (10, .d (.sl (a0.map cS27))), (11, .i (a0.length : Int)), (12, .i v96), (13, .b (decide (v96 < (a0.length : Int))))] [(23, R3 l29)]) Sub.tt ?_
    refine Chain.nil ?_
    refine AW.seq ?_
    replace h := isome h; rcases h with ⟨c111, h⟩ | ⟨c111, h⟩
    ·have c111_ : decide (v96 < (a0.length : Int)) = true := decide_eq_true c111
     refine AW.condT (b := decide (v96 < (a0.length : Int))) rfl c111_ ?_
     refine AW.sub (Sub.bool 13 (b := decide (v96 < (a0.length : Int))) rfl c111_) ?_
     refine AW.sub (S' := mk 27 [] [(0, .d (.sl (a0.map cS27))), (3, .ref 23 0 l29.length), (4, .i v30), (7, .i v30), (10, .d (.sl (a0.map cS27))), (11, .i (a0.length : Int)), (12, .i v96), (13, .b true)] [(23, R3 l29)]) (by simp; exact Sub.table (by simp) (by simp)) ?_
     refine AW.skip ?_
     refine thenQ_normal ?_
     refine AW.seq ?_
     refine AW.block ?_
     refine AW.seqR ?_
     replace h := bsome h; obtain ⟨x112, hx112, h⟩ := h
     obtain ⟨k113, hx112k, hx112, hx112a, hx112b⟩ := idx_some hx112
     refine Chain.runK [] 4 fun K hK => ?_; simp [hx112, hx112k, hx112a]; refine hK _ _ ?_; clear hK K
     refine Chain.sub (S' := mk 27 [] [(0, .d (.sl (a0.map cS27))), (3, .ref 23 0 l29.length), (4, .i v30), (6, .ptr 6 0 0), (7, .i v30), (10, .d (.sl (a0.map cS27))), (11, .i (a0.length : Int)), (12, .i v96)] [(6, some (.box [.i x112.Tx, .i x112.Kind, .d (.lit (.string x112.Key))])), (23, R3 l29)]) Sub.tt ?_
     refine Chain.nil ?_
     refine AW.seqR ?_
     refine Chain.runK [] 4 fun K hK => ?_; simp; refine hK _ _ ?_; clear hK K
     refine Chain.sub (S' := mk 27 [] [(0, .d (.sl (a0.map cS27))), (3, .ref 23 0 l29.length), (4, .i v30), (7, .i v30), (10, .d (.sl (a0.map cS27))), (11, .i (a0.length : Int)), (12, .i v96), (19, .b (x112.Tx == v30))] [(23, R3 l29)]) Sub.tt ?_
     refine Chain.nil ?_
     replace h := isome h; rcases h with ⟨c114, h⟩ | ⟨c114, h⟩
     ·have c114_ : (x112.Tx == v30) = true := c114
      refine AW.condT (b := (x112.Tx == v30)) rfl c114_ ?_
      refine AW.sub (Sub.bool 19 (b := (x112.Tx == v30)) rfl c114_) ?_
      refine AW.sub (S' := mk 27 [] [(0, .d (.sl (a0.map cS27))), (3, .ref 23 0 l29.length), (4, .i v30), (7, .i v30), (10, .d (.sl (a0.map cS27))), (11, .i (a0.length : Int)), (12, .i v96), (19, .b true)] [(23, R3 l29)]) (by simp; exact Sub.table (by simp) (by simp)) ?_
      refine AW.seqR ?_
      replace h := bsome h; obtain ⟨l115, hl115, h⟩ := h
      obtain ⟨hl115a, hl115⟩ := appL_some hl115
      subst hl115
      try simp only [List.length_cons, List.length_nil, Nat.zero_add] at hl115a
      refine Chain.runK [22] 5 fun K hK => ?_; simp [hl115a]; refine hK _ _ ?_; clear hK K
      refine Chain.sub (S' := mk 27 [] [(0, .d (.sl (a0.map cS27))), (3, .ref 23 0 ((l29 ++ [v30]).length)), (7, .i v30)] [(23, R3 (l29 ++ [v30]))]) Sub.tt ?_
      refine Chain.nil ?_
      refine AW.exit ?_
      cases h
      refine blockQ.pass (by decide) ?_
      refine thenQ_pass (by simp) ?_
      refine PostI.out (by simp) ?_
      rintro rfl
      refine blockQ.hit ?_
      refine PostN.next ?_
      exact Sub.tt
     ·have c114_ : (x112.Tx == v30) = false := Bool.eq_false_iff.2 c114
      refine AW.condF (b := (x112.Tx == v30)) rfl c114_ ?_
      refine AW.sub (Sub.bool 19 (b := (x112.Tx == v30)) rfl c114_) ?_
      refine AW.sub (S' := mk 27 [] [(0, .d (.sl (a0.map cS27))), (3, .ref 23 0 l29.length), (4, .i v30), (7, .i v30), (10, .d (.sl (a0.map cS27))), (11, .i (a0.length : Int)), (12, .i v96), (19, .b false)] [(23, R3 l29)]) (by simp; exact Sub.table (by simp) (by simp)) ?_
      refine AW.skip ?_
      refine blockQ.normal ?_
      refine thenQ_normal ?_
      refine AW.region ?_
      replace h := bsome h; obtain ⟨v116, hv116, h⟩ := h
      have hv116 := chkI_some hv116
      refine Chain.runK [] 2 fun K hK => ?_; simp [hv116]; refine hK _ _ ?_; clear hK K
      refine Chain.sub (S' := mk 27 [] [(0, .d (.sl (a0.map cS27))), (3, .ref 23 0 l29.length), (4, .i v30), (7, .i v30), (10, .d (.sl (a0.map cS27))), (11, .i (a0.length : Int)), (12, .i v116)] [(23, R3 l29)]) Sub.tt ?_
      refine Chain.nil ?_
      cases h
      refine PostI.next ?_
      exact Sub.tt
    ·have c111_ : decide (v96 < (a0.length : Int)) = false := decide_eq_false c111
     refine AW.condF (b := decide (v96 < (a0.length : Int))) rfl c111_ ?_
     refine AW.sub (Sub.bool 13 (b := decide (v96 < (a0.length : Int))) rfl c111_) ?_
     refine AW.sub (S' := mk 27 [] [(0, .d (.sl (a0.map cS27))), (3, .ref 23 0 l29.length), (4, .i v30), (7, .i v30), (10, .d (.sl (a0.map cS27))), (11, .i (a0.length : Int)), (12, .i v96), (13, .b false)] [(23, R3 l29)]) (by simp; exact Sub.table (by simp) (by simp)) ?_
     refine AW.exit ?_
     cases h
     refine thenQ_pass (by simp) ?_
     refine PostI.out (by simp) ?_
     rintro rfl
     refine blockQ.hit ?_
     refine PostN.next ?_
     exact Sub.tt
   ·rintro l110 h
    refine blockQ.normal ?_
    refine thenQ_normal ?_
    refine AW.region ?_
    replace h := bsome h; obtain ⟨v117, hv117, h⟩ := h
    have hv117 := chkI_some hv117
    refine Chain.runK [] 2 fun K hK => ?_; simp [hv117]; refine hK _ _ ?_; clear hK K
    refine Chain.sub (S' := mk 27 [] [(0, .d (.sl (a0.map cS27))), (3, .ref 23 0 l110.length), (7, .i v117)] [(23, R3 l110)]) Sub.tt ?_
    refine Chain.nil ?_
    cases h
    refine PostI.next ?_
    exact Sub.tt
  ·have c90_ : decide (v30 < 20) = false := decide_eq_false c90
   refine AW.condF (b := decide (v30 < 20)) rfl c90_ ?_
   refine AW.sub (Sub.bool 8 (b := decide (v30 < 20)) rfl c90_) ?_
   refine AW.sub (S' := mk 27 [] [(0, .d (.sl (a0.map cS27))), (3, .ref 23 0 l29.length), (7, .i v30), (8, .b false)] [(23, R3 l29)]) (by simp; exact Sub.table (by simp) (by simp)) ?_
   refine AW.exit ?_
   cases h
   refine thenQ_pass (by simp) ?_
   refine PostI.out (by simp) ?_
   rintro rfl
   refine blockQ.hit ?_
   refine PostN.next ?_
   exact Sub.tt
 ·rintro l89 h
  refine thenQ_normal ?_
  refine AW.seqR ?_
  refine Chain.runK [] 2 fun K hK => ?_; simp; refine hK _ _ ?_; clear hK K
  refine Chain.sub (S' := mk 27 [] [(2, .ref 23 0 l89.length)] [(23, R3 l89)]) Sub.tt ?_
  refine Chain.nil ?_
  refine AW.sub (Sub.freeze 23 rfl) ?_
  refine AW.sub (S' := mk 27 [] [(2, .d (.sl (l89.map (cI .i64))))] []) (by simp; exact Sub.table (by simp) (by simp)) ?_
  refine AW.ret ?_
  cases h
  exact FinC.ret (by simp) (by simp)

end Go.Proofs.Ytifcmomjjkbboaa
