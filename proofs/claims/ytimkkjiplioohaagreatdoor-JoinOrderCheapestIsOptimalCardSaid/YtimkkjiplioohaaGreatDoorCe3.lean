/- Functions of the program as functional programs; the code computes them. -/
import Derived.Test.YtimkkjiplioohaaGreatDoorCe2
import Derived.Test.YtimkkjiplioohaaGreatDoorA4
namespace Go.Proofs.YtimkkjiplioohaaGreatDoor
open Go.Ab Go.Rp
attribute [-simp] List.all_eq_true Array.all_toList Array.all_eq_true

/-- stemma/joinorder.Cheapest -/
def d17 (N : Nat) (a0 : S25) (a1 : Bool) : Option (S28 × Int × Int) :=
 (d12 N a0).bind fun r1 =>
 if (r1 != 0) then (
  some ((S28.mk 0 ([] : List S28)), 0, r1)
 ) else
 (shiftB .i64 (a0.Sizes.length : Int)).bind fun _ =>
 letv (shlI .i64 1 (a0.Sizes.length : Int)) fun v3 =>
 (mkL 48 v3 ((S122.mk (S28.mk 0 []) 0 false) : S122)).bind fun l4 =>
 Option.bind (α := List S122) (
  iterN (σ := (Bool × (List S122) × Int)) (ρ := List S122) (fun ((v533, l534, v535) : (Bool × (List S122) × Int)) =>
   if v535 < (l534.length : Int) then (
    Option.bind (α := (Bool × (List S122))) (
     letv (IntKind.u64.wrap (v535)) fun v1986 =>
     (d51 N v1986).bind fun r1987 =>
     if (r1987 == 1) then (
      letv (IntKind.u64.wrap (v535)) fun v1989 =>
      (d52 N v1989).bind fun r1990 =>
      (idx l534 v535).bind fun _x1991 =>
      letv (setI l534 v535 (S122.mk (S28.mk r1990 []) 0 true)) fun l1993 =>
      some (v533, l1993)
     ) else
     (d53 N a0 v535).bind fun r1994 =>
     (chkI (v535 - 1)).bind fun v1995 =>
     letv (bitI .and .i64 v1995 v535) fun v1996 =>
     Option.bind (α := (Bool × (List S122))) (
      iterN (σ := (Bool × (List S122) × Int)) (ρ := (Bool × (List S122))) (fun ((v2064, l2065, v2066) : (Bool × (List S122) × Int)) =>
       if v2066 > 0 then (
        Option.bind (α := (Bool × (List S122))) (
         letv (bitI .andNot .i64 v535 v2066) fun v2240 =>
         Option.bind (α := (Bool × Bool)) (
          if v2064 = true then (
           letv (IntKind.u64.wrap (v2240)) fun v2247 =>
           (d51 N v2247).bind fun r2248 =>
           some (true, decide (r2248 > 1))
          ) else
          some (false, false)
         ) fun ((v2244, v2245) : (Bool × Bool)) =>
         if v2245 = true then (
          some (v2244, l2065)
         ) else
         (idx l2065 v2066).bind fun x2250 =>
         (idx l2065 v2240).bind fun x2252 =>
         (chkI (x2250.cost + x2252.cost)).bind fun v2254 =>
         (chkI (v2254 + r1994)).bind fun v2255 =>
         Option.bind (α := Bool) (
          (idx l2065 v535).bind fun x2260 =>
          if (!x2260.ok) = true then (
           some true
          ) else
          some (decide (v2255 < x2260.cost))
         ) fun (v2259 : Bool) =>
         if v2259 = true then (
          (idx l2065 v2066).bind fun x2264 =>
          (idx l2065 v2240).bind fun x2266 =>
          (idx l2065 v535).bind fun _x2268 =>
          letv (setI l2065 v535 (S122.mk (S28.mk 0 ([x2264.tree, x2266.tree] : List S28)) v2255 true)) fun l2270 =>
          some (v2244, l2270)
         ) else
         some (v2244, l2065)
        ) fun ((v2238, l2239) : (Bool × (List S122))) =>
        (chkI (v2066 - 1)).bind fun v2271 =>
        letv (bitI .and .i64 v2271 v535) fun v2272 =>
        some (.inl (v2238, l2239, v2272))
       ) else
       some (.inr (v2064, l2065))
      ) N (v533, l534, v1996)
     ) fun ((v2204, l2205) : (Bool × (List S122))) =>
     some (v2204, l2205)
    ) fun ((v1984, l1985) : (Bool × (List S122))) =>
    (chkI (v535 + 1)).bind fun v2273 =>
    some (.inl (v1984, l1985, v2273))
   ) else
   some (.inr l534)
  ) N (a1, l4, 1)
 ) fun (l1695 : List S122) =>
 (chkI ((l1695.length : Int) - 1)).bind fun v2274 =>
 (idx l1695 v2274).bind fun x2275 =>
 (d54 N x2275.tree).bind fun r2277 =>
 some (r2277, x2275.cost, 0)
set_option maxRecDepth 100000 in
set_option maxHeartbeats 4000000 in
theorem p17 (N : Nat) (a0 : S25) (a1 : Bool) (r : (S28 × Int × Int)) (h : d17 N a0 a1 = some r) : FunC Tryz.prog 17 [.agg [.d (.sl (a0.Sizes.map (cI .i64))), .d (.sl (a0.Selectivities.map cS115))], .d (.lit (.bool a1))] (.tup [.agg [.d (.lit (.int .i64 r.1.Leaf)), .d (.sl (r.1.Children.map cS28))], .d (.lit (.int .i64 r.2.1)), .d (.lit (.int .i64 r.2.2))]) := by
 unfold d17 at h
 refine FunC.enter 123 [(0, .agg [.d (.sl (a0.Sizes.map (cI .i64))), .d (.sl (a0.Selectivities.map cS115))]), (1, .d (.lit (.bool a1)))] (by simp) Tryz.func17 rfl (of_decide_eq_true rfl) rfl rfl ?_
 refine AW.seqR ?_
 refine Chain.runK [] 4 fun K hK => ?_; simp; refine hK _ _ ?_; clear hK K
 refine Chain.sub (S' := mk 123 [] [(1, .d (.lit (.bool a1))), (2, .ptr 2 0 0), (4, .ptr 4 0 0)] [(2, some (.box [.d (.sl (a0.Sizes.map (cI .i64))), .d (.sl (a0.Selectivities.map cS115))])), (4, some (.box [.d (.lit (.int .i64 0)), .d (.lit (.slice none 0 0))]))]) Sub.tt ?_
 refine Chain.nil ?_
 refine AW.seq ?_
 refine AW.seqR ?_
 refine Chain.runK [] 1 fun K hK => ?_; simp; refine hK _ _ ?_; clear hK K
 refine Chain.sub (S' := mk 123 [] [(1, .d (.lit (.bool a1))), (2, .ptr 2 0 0), (4, .ptr 4 0 0), (15, .agg [.d (.sl (a0.Sizes.map (cI .i64))), .d (.sl (a0.Selectivities.map cS115))])] [(2, some (.box [.d (.sl (a0.Sizes.map (cI .i64))), .d (.sl (a0.Selectivities.map cS115))])), (4, some (.box [.d (.lit (.int .i64 0)), .d (.lit (.slice none 0 0))]))]) Sub.tt ?_
 replace h := bsome h; obtain ⟨r1, hr1, h⟩ := h
 refine Chain.callL (d := 16) (p12 N a0 r1 hr1) (by simp) rfl rfl (by simp <;> rfl) (by simp <;> rfl) ent12 (by simp <;> rfl) ?_
 refine Chain.sub (S' := mk 123 [] [(1, .d (.lit (.bool a1))), (2, .ptr 2 0 0), (4, .ptr 4 0 0), (15, .agg [.d (.sl (a0.Sizes.map (cI .i64))), .d (.sl (a0.Selectivities.map cS115))]), (16, .d (.lit (.int .i64 r1)))] [(2, some (.box [.d (.sl (a0.Sizes.map (cI .i64))), .d (.sl (a0.Selectivities.map cS115))])), (4, some (.box [.d (.lit (.int .i64 0)), .d (.lit (.slice none 0 0))]))]) (by simp; exact Sub.table (by simp) (by simp)) ?_
 refine Chain.runK [] 1 fun K hK => ?_; simp; refine hK _ _ ?_; clear hK K
 refine Chain.sub (S' := mk 123 [] [(1, .d (.lit (.bool a1))), (2, .ptr 2 0 0), (4, .ptr 4 0 0), (7, .d (.lit (.int .i64 r1)))] [(2, some (.box [.d (.sl (a0.Sizes.map (cI .i64))), .d (.sl (a0.Selectivities.map cS115))])), (4, some (.box [.d (.lit (.int .i64 0)), .d (.lit (.slice none 0 0))]))]) Sub.tt ?_
 refine Chain.nil ?_
 refine AW.seqR ?_
 refine Chain.runK [] 2 fun K hK => ?_; simp; refine hK _ _ ?_; clear hK K
 refine Chain.sub (S' := mk 123 [] [(1, .d (.lit (.bool a1))), (2, .ptr 2 0 0), (4, .ptr 4 0 0), (7, .d (.lit (.int .i64 r1))), (18, .d (.lit (.bool (r1 != 0))))] [(2, some (.box [.d (.sl (a0.Sizes.map (cI .i64))), .d (.sl (a0.Selectivities.map cS115))])), (4, some (.box [.d (.lit (.int .i64 0)), .d (.lit (.slice none 0 0))]))]) Sub.tt ?_
 refine Chain.nil ?_
 replace h := isome h; rcases h with ⟨c2, h⟩ | ⟨c2, h⟩
 ·have c2_ : (r1 != 0) = true := c2
  refine AW.condT (b := (r1 != 0)) rfl c2_ ?_
  refine AW.sub (Sub.bool 18 (b := (r1 != 0)) rfl c2_) ?_
  refine AW.sub (S' := mk 123 [] [(1, .d (.lit (.bool a1))), (2, .ptr 2 0 0), (4, .ptr 4 0 0), (7, .d (.lit (.int .i64 r1))), (18, .d (.lit (.bool true)))] [(2, some (.box [.d (.sl (a0.Sizes.map (cI .i64))), .d (.sl (a0.Selectivities.map cS115))])), (4, some (.box [.d (.lit (.int .i64 0)), .d (.lit (.slice none 0 0))]))]) (by simp; exact Sub.table (by simp) (by simp)) ?_
  refine AW.seqR ?_
  refine Chain.runK [] 5 fun K hK => ?_; simp; refine hK _ _ ?_; clear hK K
  refine Chain.sub (S' := mk 123 [] [(4, .ptr 4 0 0), (5, .d (.lit (.int .i64 0))), (6, .d (.lit (.int .i64 r1)))] [(4, some (.box [.d (.lit (.int .i64 0)), .d (.lit (.slice none 0 0))]))]) Sub.tt ?_
  refine Chain.nil ?_
  refine AW.sub (Sub.wkBox 4 rfl) ?_
  refine AW.sub (S' := mk 123 [] [(4, .ptr 4 0 0), (5, .d (.lit (.int .i64 0))), (6, .d (.lit (.int .i64 r1)))] [(4, some (.box [.d (.lit (.int .i64 0)), .d (.sl (([] : List S28).map cS28))]))]) (by simp; exact Sub.table (by simp) (by simp)) ?_
  refine AW.ret ?_
  cases h
  refine thenQ_pass (by simp) ?_
  exact FinC.ret (by simp) (by simp)
 ·have c2_ : (r1 != 0) = false := Bool.eq_false_iff.2 c2
  refine AW.condF (b := (r1 != 0)) rfl c2_ ?_
  refine AW.sub (Sub.bool 18 (b := (r1 != 0)) rfl c2_) ?_
  refine AW.sub (S' := mk 123 [] [(1, .d (.lit (.bool a1))), (2, .ptr 2 0 0), (4, .ptr 4 0 0), (7, .d (.lit (.int .i64 r1))), (18, .d (.lit (.bool false)))] [(2, some (.box [.d (.sl (a0.Sizes.map (cI .i64))), .d (.sl (a0.Selectivities.map cS115))])), (4, some (.box [.d (.lit (.int .i64 0)), .d (.lit (.slice none 0 0))]))]) (by simp; exact Sub.table (by simp) (by simp)) ?_
  refine AW.skip ?_
  refine thenQ_normal ?_
  refine AW.seqR ?_
  replace h := bsome h; obtain ⟨_, gv3, h⟩ := h
  have hv3a := shiftB_some gv3
  try simp at hv3a
  replace h := lsome h; obtain ⟨v3, hv3, h⟩ := h
  replace h := bsome h; obtain ⟨l4, gl4, h⟩ := h
  obtain ⟨hl4a, hl4b, hl4c, hl4d⟩ := mkL_some cS122 gl4
  clear gl4
  replace hl4c : List.replicate l4.length [.lit (.int .i64 0), .sl [], .lit (.int .i64 0), .lit (.bool false)] = l4.map cS122 := hl4c
  refine Chain.runK [] 5 fun K hK => ?_; simp [hv3a, hv3, hl4a, hl4b, hl4d]; refine hK _ _ ?_; clear hK K
  refine Chain.sub (Sub.wkRow 25 rfl) ?_
  refine Chain.sub (S' := mk 123 [] [(1, .d (.lit (.bool a1))), (2, .ptr 2 0 0), (4, .ptr 4 0 0), (25, .ref 25 0 l4.length)] [(2, some (.box [.d (.sl (a0.Sizes.map (cI .i64))), .d (.sl (a0.Selectivities.map cS115))])), (4, some (.box [.d (.lit (.int .i64 0)), .d (.lit (.slice none 0 0))])), (25, some (.arr 122 4 (l4.map cS122)))]) (by simp [hl4c]; exact Sub.table (by simp) (by simp)) ?_
  refine Chain.runK [] 1 fun K hK => ?_; simp; refine hK _ _ ?_; clear hK K
  refine Chain.sub (S' := mk 123 [] [(1, .d (.lit (.bool a1))), (2, .ptr 2 0 0), (4, .ptr 4 0 0), (8, .ref 25 0 l4.length)] [(2, some (.box [.d (.sl (a0.Sizes.map (cI .i64))), .d (.sl (a0.Selectivities.map cS115))])), (4, some (.box [.d (.lit (.int .i64 0)), .d (.lit (.slice none 0 0))])), (25, some (.arr 122 4 (l4.map cS122)))]) Sub.tt ?_
  refine Chain.nil ?_
  refine AW.seq ?_
  refine AW.seqR ?_
  refine Chain.runK [] 1 fun K hK => ?_; simp; refine hK _ _ ?_; clear hK K
  refine Chain.sub (S' := mk 123 [] [(1, .d (.lit (.bool a1))), (2, .ptr 2 0 0), (4, .ptr 4 0 0), (8, .ref 25 0 l4.length), (9, .d (.lit (.int .i64 1)))] [(2, some (.box [.d (.sl (a0.Sizes.map (cI .i64))), .d (.sl (a0.Selectivities.map cS115))])), (4, some (.box [.d (.lit (.int .i64 0)), .d (.lit (.slice none 0 0))])), (25, some (.arr 122 4 (l4.map cS122)))]) Sub.tt ?_
  refine Chain.nil ?_
  refine AW.lastN (fun (l1695 : List S122) => mk 123 [] [(4, .ptr 4 0 0), (8, .ref 25 0 l1695.length)] [(4, some (.box [.d (.lit (.int .i64 0)), .d (.lit (.slice none 0 0))])), (25, some (.arr 122 4 (l1695.map cS122)))]) h ?_ ?_ <;> clear h
  ·intro o h
   refine AW.block ?_
   refine AW.iter (fun ((v533, l534, v535) : (Bool × (List S122) × Int)) => mk 123 [] [(1, .d (.lit (.bool v533))), (2, .ptr 2 0 0), (4, .ptr 4 0 0), (8, .ref 25 0 l534.length), (9, .d (.lit (.int .i64 v535)))] [(2, some (.box [.d (.sl (a0.Sizes.map (cI .i64))), .d (.sl (a0.Selectivities.map cS115))])), (4, some (.box [.d (.lit (.int .i64 0)), .d (.lit (.slice none 0 0))])), (25, some (.arr 122 4 (l534.map cS122)))]) h Sub.tt ?_
   clear h
   rintro ⟨v533, l534, v535⟩ x h
   dsimp only at h ⊢
   refine AW.seq ?_
   refine AW.seqR ?_
   refine Chain.runK [] 4 fun K hK => ?_; simp; refine hK _ _ ?_; clear hK K
   refine Chain.sub (S' := mk 123 [] [(1, .d (.lit (.bool v533))), (2, .ptr 2 0 0), (4, .ptr 4 0 0), (8, .ref 25 0 l534.length), (9, .d (.lit (.int .i64 v535))), (29, .d (.lit (.bool (decide (v535 < (l534.length : Int))))))] [(2, some (.box [.d (.sl (a0.Sizes.map (cI .i64))), .d (.sl (a0.Selectivities.map cS115))])), (4, some (.box [.d (.lit (.int .i64 0)), .d (.lit (.slice none 0 0))])), (25, some (.arr 122 4 (l534.map cS122)))]) Sub.tt ?_
   refine Chain.nil ?_
   replace h := isome h; rcases h with ⟨c1696, h⟩ | ⟨c1696, h⟩
   ·have c1696_ : decide (v535 < (l534.length : Int)) = true := decide_eq_true c1696
    refine AW.condT (b := decide (v535 < (l534.length : Int))) rfl c1696_ ?_
    refine AW.sub (Sub.bool 29 (b := decide (v535 < (l534.length : Int))) rfl c1696_) ?_
    refine AW.sub (S' := mk 123 [] [(1, .d (.lit (.bool v533))), (2, .ptr 2 0 0), (4, .ptr 4 0 0), (8, .ref 25 0 l534.length), (9, .d (.lit (.int .i64 v535))), (29, .d (.lit (.bool true)))] [(2, some (.box [.d (.sl (a0.Sizes.map (cI .i64))), .d (.sl (a0.Selectivities.map cS115))])), (4, some (.box [.d (.lit (.int .i64 0)), .d (.lit (.slice none 0 0))])), (25, some (.arr 122 4 (l534.map cS122)))]) (by simp; exact Sub.table (by simp) (by simp)) ?_
    refine AW.skip ?_
    refine thenQ_normal ?_
    refine AW.seqN (fun ((v1984, l1985) : (Bool × (List S122))) => mk 123 [] [(1, .d (.lit (.bool v1984))), (2, .ptr 2 0 0), (4, .ptr 4 0 0), (8, .ref 25 0 l1985.length), (9, .d (.lit (.int .i64 v535)))] [(2, some (.box [.d (.sl (a0.Sizes.map (cI .i64))), .d (.sl (a0.Selectivities.map cS115))])), (4, some (.box [.d (.lit (.int .i64 0)), .d (.lit (.slice none 0 0))])), (25, some (.arr 122 4 (l1985.map cS122)))]) h ?_ ?_ <;> clear h
    ·intro o h
     refine AW.block ?_
     refine AW.seq ?_
     refine AW.seqR ?_
     replace h := lsome h; obtain ⟨v1986, hv1986, h⟩ := h
     refine Chain.runK [] 2 fun K hK => ?_; simp [hv1986]; refine hK _ _ ?_; clear hK K
     refine Chain.sub (S' := mk 123 [] [(1, .d (.lit (.bool v533))), (2, .ptr 2 0 0), (4, .ptr 4 0 0), (8, .ref 25 0 l534.length), (9, .d (.lit (.int .i64 v535))), (33, .d (.lit (.int .u64 v1986)))] [(2, some (.box [.d (.sl (a0.Sizes.map (cI .i64))), .d (.sl (a0.Selectivities.map cS115))])), (4, some (.box [.d (.lit (.int .i64 0)), .d (.lit (.slice none 0 0))])), (25, some (.arr 122 4 (l534.map cS122)))]) Sub.tt ?_
     replace h := bsome h; obtain ⟨r1987, hr1987, h⟩ := h
     refine Chain.callL (d := 34) (p51 N v1986 r1987 hr1987) (by simp) rfl rfl (by simp <;> rfl) (by simp <;> rfl) ent51 (by simp <;> rfl) ?_
     refine Chain.sub (S' := mk 123 [] [(1, .d (.lit (.bool v533))), (2, .ptr 2 0 0), (4, .ptr 4 0 0), (8, .ref 25 0 l534.length), (9, .d (.lit (.int .i64 v535))), (33, .d (.lit (.int .u64 v1986))), (34, .d (.lit (.int .i64 r1987)))] [(2, some (.box [.d (.sl (a0.Sizes.map (cI .i64))), .d (.sl (a0.Selectivities.map cS115))])), (4, some (.box [.d (.lit (.int .i64 0)), .d (.lit (.slice none 0 0))])), (25, some (.arr 122 4 (l534.map cS122)))]) (by simp; exact Sub.table (by simp) (by simp)) ?_
     refine Chain.runK [] 1 fun K hK => ?_; simp; refine hK _ _ ?_; clear hK K
     refine Chain.sub (S' := mk 123 [] [(1, .d (.lit (.bool v533))), (2, .ptr 2 0 0), (4, .ptr 4 0 0), (8, .ref 25 0 l534.length), (9, .d (.lit (.int .i64 v535))), (35, .d (.lit (.bool (r1987 == 1))))] [(2, some (.box [.d (.sl (a0.Sizes.map (cI .i64))), .d (.sl (a0.Selectivities.map cS115))])), (4, some (.box [.d (.lit (.int .i64 0)), .d (.lit (.slice none 0 0))])), (25, some (.arr 122 4 (l534.map cS122)))]) Sub.tt ?_
     refine Chain.nil ?_
     replace h := isome h; rcases h with ⟨c1988, h⟩ | ⟨c1988, h⟩
     ·have c1988_ : (r1987 == 1) = true := c1988
      refine AW.condT (b := (r1987 == 1)) rfl c1988_ ?_
      refine AW.sub (Sub.bool 35 (b := (r1987 == 1)) rfl c1988_) ?_
      refine AW.sub (S' := mk 123 [] [(1, .d (.lit (.bool v533))), (2, .ptr 2 0 0), (4, .ptr 4 0 0), (8, .ref 25 0 l534.length), (9, .d (.lit (.int .i64 v535))), (35, .d (.lit (.bool true)))] [(2, some (.box [.d (.sl (a0.Sizes.map (cI .i64))), .d (.sl (a0.Selectivities.map cS115))])), (4, some (.box [.d (.lit (.int .i64 0)), .d (.lit (.slice none 0 0))])), (25, some (.arr 122 4 (l534.map cS122)))]) (by simp; exact Sub.table (by simp) (by simp)) ?_
      refine AW.seqR ?_
      replace h := lsome h; obtain ⟨v1989, hv1989, h⟩ := h
      refine Chain.runK [] 4 fun K hK => ?_; simp [hv1989]; refine hK _ _ ?_; clear hK K
      refine Chain.sub (S' := mk 123 [] [(1, .d (.lit (.bool v533))), (2, .ptr 2 0 0), (4, .ptr 4 0 0), (8, .ref 25 0 l534.length), (9, .d (.lit (.int .i64 v535))), (36, .ref 25 0 l534.length), (37, .d (.lit (.int .i64 v535))), (39, .d (.lit (.int .u64 v1989)))] [(2, some (.box [.d (.sl (a0.Sizes.map (cI .i64))), .d (.sl (a0.Selectivities.map cS115))])), (4, some (.box [.d (.lit (.int .i64 0)), .d (.lit (.slice none 0 0))])), (25, some (.arr 122 4 (l534.map cS122)))]) Sub.tt ?_
      replace h := bsome h; obtain ⟨r1990, hr1990, h⟩ := h
      refine Chain.callL (d := 40) (p52 N v1989 r1990 hr1990) (by simp) rfl rfl (by simp <;> rfl) (by simp <;> rfl) ent52 (by simp <;> rfl) ?_
      refine Chain.sub (S' := mk 123 [] [(1, .d (.lit (.bool v533))), (2, .ptr 2 0 0), (4, .ptr 4 0 0), (8, .ref 25 0 l534.length), (9, .d (.lit (.int .i64 v535))), (36, .ref 25 0 l534.length), (37, .d (.lit (.int .i64 v535))), (39, .d (.lit (.int .u64 v1989))), (40, .d (.lit (.int .i64 r1990)))] [(2, some (.box [.d (.sl (a0.Sizes.map (cI .i64))), .d (.sl (a0.Selectivities.map cS115))])), (4, some (.box [.d (.lit (.int .i64 0)), .d (.lit (.slice none 0 0))])), (25, some (.arr 122 4 (l534.map cS122)))]) (by simp; exact Sub.table (by simp) (by simp)) ?_
      replace h := bsome h; obtain ⟨x1991, hx1991, h⟩ := h
      obtain ⟨k1992, hx1991k, hx1991, hx1991a, hx1991b⟩ := idx_some hx1991
      replace h := lsome h; obtain ⟨l1993, gl1993, h⟩ := h
      obtain ⟨hl1993, hl1993n⟩ := setI_some cS122 gl1993 hx1991k
      replace hl1993 : (l534.map cS122).set k1992 [.lit (.int .i64 r1990), .sl [], .lit (.int .i64 0), .lit (.bool true)] = l1993.map cS122 := hl1993
      clear gl1993
      refine Chain.runK [] 2 fun K hK => ?_; simp; refine hK _ _ ?_; clear hK K
      refine Chain.sub (S' := mk 123 [] [(1, .d (.lit (.bool v533))), (2, .ptr 2 0 0), (4, .ptr 4 0 0), (8, .ref 25 0 l534.length), (9, .d (.lit (.int .i64 v535))), (36, .ref 25 0 l534.length), (37, .d (.lit (.int .i64 v535))), (42, .agg [.d (.lit (.int .i64 r1990)), .d (.lit (.slice none 0 0)), .d (.lit (.int .i64 0)), .d (.lit (.bool true))])] [(2, some (.box [.d (.sl (a0.Sizes.map (cI .i64))), .d (.sl (a0.Selectivities.map cS115))])), (4, some (.box [.d (.lit (.int .i64 0)), .d (.lit (.slice none 0 0))])), (25, some (.arr 122 4 (l534.map cS122)))]) Sub.tt ?_
      refine Chain.sub (Sub.wk 42 rfl) ?_
      refine Chain.sub (S' := mk 123 [] [(1, .d (.lit (.bool v533))), (2, .ptr 2 0 0), (4, .ptr 4 0 0), (8, .ref 25 0 l534.length), (9, .d (.lit (.int .i64 v535))), (36, .ref 25 0 l534.length), (37, .d (.lit (.int .i64 v535))), (42, .agg [.d (.lit (.int .i64 r1990)), .d (.sl []), .d (.lit (.int .i64 0)), .d (.lit (.bool true))])] [(2, some (.box [.d (.sl (a0.Sizes.map (cI .i64))), .d (.sl (a0.Selectivities.map cS115))])), (4, some (.box [.d (.lit (.int .i64 0)), .d (.lit (.slice none 0 0))])), (25, some (.arr 122 4 (l534.map cS122)))]) (by simp; exact Sub.table (by simp) (by simp)) ?_
      refine Chain.runK [] 2 fun K hK => ?_; simp [hx1991, hx1991k, hx1991a, hx1991b, hl1993]; refine hK _ _ ?_; clear hK K
      refine Chain.sub (S' := mk 123 [] [(1, .d (.lit (.bool v533))), (2, .ptr 2 0 0), (4, .ptr 4 0 0), (8, .ref 25 0 l1993.length), (9, .d (.lit (.int .i64 v535)))] [(2, some (.box [.d (.sl (a0.Sizes.map (cI .i64))), .d (.sl (a0.Selectivities.map cS115))])), (4, some (.box [.d (.lit (.int .i64 0)), .d (.lit (.slice none 0 0))])), (25, some (.arr 122 4 (l1993.map cS122)))]) (Sub.table (by simp [hl1993n]) (by simp)) ?_
      refine Chain.nil ?_
      refine AW.exit ?_
      cases h
      refine thenQ_pass (by simp) ?_
      refine blockQ.hit ?_
      refine PostN.next ?_
      exact Sub.tt
     ·have c1988_ : (r1987 == 1) = false := Bool.eq_false_iff.2 c1988
      refine AW.condF (b := (r1987 == 1)) rfl c1988_ ?_
      refine AW.sub (Sub.bool 35 (b := (r1987 == 1)) rfl c1988_) ?_
      refine AW.sub (S' := mk 123 [] [(1, .d (.lit (.bool v533))), (2, .ptr 2 0 0), (4, .ptr 4 0 0), (8, .ref 25 0 l534.length), (9, .d (.lit (.int .i64 v535))), (35, .d (.lit (.bool false)))] [(2, some (.box [.d (.sl (a0.Sizes.map (cI .i64))), .d (.sl (a0.Selectivities.map cS115))])), (4, some (.box [.d (.lit (.int .i64 0)), .d (.lit (.slice none 0 0))])), (25, some (.arr 122 4 (l534.map cS122)))]) (by simp; exact Sub.table (by simp) (by simp)) ?_
      refine AW.skip ?_
      refine thenQ_normal ?_
      refine AW.seqR ?_
      refine Chain.runK [] 2 fun K hK => ?_; simp; refine hK _ _ ?_; clear hK K
      refine Chain.sub (S' := mk 123 [] [(1, .d (.lit (.bool v533))), (2, .ptr 2 0 0), (4, .ptr 4 0 0), (8, .ref 25 0 l534.length), (9, .d (.lit (.int .i64 v535))), (44, .agg [.d (.sl (a0.Sizes.map (cI .i64))), .d (.sl (a0.Selectivities.map cS115))]), (45, .d (.lit (.int .i64 v535)))] [(2, some (.box [.d (.sl (a0.Sizes.map (cI .i64))), .d (.sl (a0.Selectivities.map cS115))])), (4, some (.box [.d (.lit (.int .i64 0)), .d (.lit (.slice none 0 0))])), (25, some (.arr 122 4 (l534.map cS122)))]) Sub.tt ?_
      replace h := bsome h; obtain ⟨r1994, hr1994, h⟩ := h
      refine Chain.callL (d := 46) (p53 N a0 v535 r1994 hr1994) (by simp) rfl rfl (by simp <;> rfl) (by simp <;> rfl) ent53 (by simp <;> rfl) ?_
      refine Chain.sub (S' := mk 123 [] [(1, .d (.lit (.bool v533))), (2, .ptr 2 0 0), (4, .ptr 4 0 0), (8, .ref 25 0 l534.length), (9, .d (.lit (.int .i64 v535))), (44, .agg [.d (.sl (a0.Sizes.map (cI .i64))), .d (.sl (a0.Selectivities.map cS115))]), (45, .d (.lit (.int .i64 v535))), (46, .d (.lit (.int .i64 r1994)))] [(2, some (.box [.d (.sl (a0.Sizes.map (cI .i64))), .d (.sl (a0.Selectivities.map cS115))])), (4, some (.box [.d (.lit (.int .i64 0)), .d (.lit (.slice none 0 0))])), (25, some (.arr 122 4 (l534.map cS122)))]) (by simp; exact Sub.table (by simp) (by simp)) ?_
      refine Chain.runK [] 1 fun K hK => ?_; simp; refine hK _ _ ?_; clear hK K
      refine Chain.sub (S' := mk 123 [] [(1, .d (.lit (.bool v533))), (2, .ptr 2 0 0), (4, .ptr 4 0 0), (8, .ref 25 0 l534.length), (9, .d (.lit (.int .i64 v535))), (10, .d (.lit (.int .i64 r1994)))] [(2, some (.box [.d (.sl (a0.Sizes.map (cI .i64))), .d (.sl (a0.Selectivities.map cS115))])), (4, some (.box [.d (.lit (.int .i64 0)), .d (.lit (.slice none 0 0))])), (25, some (.arr 122 4 (l534.map cS122)))]) Sub.tt ?_
      refine Chain.nil ?_
      refine AW.seqR ?_
      replace h := bsome h; obtain ⟨v1995, hv1995, h⟩ := h
      have hv1995 := chkI_some hv1995
      replace h := lsome h; obtain ⟨v1996, hv1996, h⟩ := h
      refine Chain.runK [] 5 fun K hK => ?_; simp [hv1995, hv1996]; refine hK _ _ ?_; clear hK K
      refine Chain.sub (S' := mk 123 [] [(1, .d (.lit (.bool v533))), (2, .ptr 2 0 0), (4, .ptr 4 0 0), (8, .ref 25 0 l534.length), (9, .d (.lit (.int .i64 v535))), (10, .d (.lit (.int .i64 r1994))), (11, .d (.lit (.int .i64 v1996)))] [(2, some (.box [.d (.sl (a0.Sizes.map (cI .i64))), .d (.sl (a0.Selectivities.map cS115))])), (4, some (.box [.d (.lit (.int .i64 0)), .d (.lit (.slice none 0 0))])), (25, some (.arr 122 4 (l534.map cS122)))]) Sub.tt ?_
      refine Chain.nil ?_
      refine AW.lastN (fun ((v2204, l2205) : (Bool × (List S122))) => mk 123 [] [(1, .d (.lit (.bool v2204))), (2, .ptr 2 0 0), (4, .ptr 4 0 0), (8, .ref 25 0 l2205.length), (9, .d (.lit (.int .i64 v535)))] [(2, some (.box [.d (.sl (a0.Sizes.map (cI .i64))), .d (.sl (a0.Selectivities.map cS115))])), (4, some (.box [.d (.lit (.int .i64 0)), .d (.lit (.slice none 0 0))])), (25, some (.arr 122 4 (l2205.map cS122)))]) h ?_ ?_ <;> clear h
      ·intro o h
       refine AW.block ?_
       refine AW.iter (fun ((v2064, l2065, v2066) : (Bool × (List S122) × Int)) => mk 123 [] [(1, .d (.lit (.bool v2064))), (2, .ptr 2 0 0), (4, .ptr 4 0 0), (8, .ref 25 0 l2065.length), (9, .d (.lit (.int .i64 v535))), (10, .d (.lit (.int .i64 r1994))), (11, .d (.lit (.int .i64 v2066)))] [(2, some (.box [.d (.sl (a0.Sizes.map (cI .i64))), .d (.sl (a0.Selectivities.map cS115))])), (4, some (.box [.d (.lit (.int .i64 0)), .d (.lit (.slice none 0 0))])), (25, some (.arr 122 4 (l2065.map cS122)))]) h Sub.tt ?_
       clear h
       rintro ⟨v2064, l2065, v2066⟩ x h
       dsimp only at h ⊢
       refine AW.seq ?_
       refine AW.seqR ?_
       refine Chain.runK [] 2 fun K hK => ?_; simp; refine hK _ _ ?_; clear hK K
       refine Chain.sub (S' := mk 123 [] [(1, .d (.lit (.bool v2064))), (2, .ptr 2 0 0), (4, .ptr 4 0 0), (8, .ref 25 0 l2065.length), (9, .d (.lit (.int .i64 v535))), (10, .d (.lit (.int .i64 r1994))), (11, .d (.lit (.int .i64 v2066))), (52, .d (.lit (.bool (decide (v2066 > 0)))))] [(2, some (.box [.d (.sl (a0.Sizes.map (cI .i64))), .d (.sl (a0.Selectivities.map cS115))])), (4, some (.box [.d (.lit (.int .i64 0)), .d (.lit (.slice none 0 0))])), (25, some (.arr 122 4 (l2065.map cS122)))]) Sub.tt ?_
       refine Chain.nil ?_
       replace h := isome h; rcases h with ⟨c2206, h⟩ | ⟨c2206, h⟩
       ·have c2206_ : decide (v2066 > 0) = true := decide_eq_true c2206
        refine AW.condT (b := decide (v2066 > 0)) rfl c2206_ ?_
        refine AW.sub (Sub.bool 52 (b := decide (v2066 > 0)) rfl c2206_) ?_
        refine AW.sub (S' := mk 123 [] [(1, .d (.lit (.bool v2064))), (2, .ptr 2 0 0), (4, .ptr 4 0 0), (8, .ref 25 0 l2065.length), (9, .d (.lit (.int .i64 v535))), (10, .d (.lit (.int .i64 r1994))), (11, .d (.lit (.int .i64 v2066))), (52, .d (.lit (.bool true)))] [(2, some (.box [.d (.sl (a0.Sizes.map (cI .i64))), .d (.sl (a0.Selectivities.map cS115))])), (4, some (.box [.d (.lit (.int .i64 0)), .d (.lit (.slice none 0 0))])), (25, some (.arr 122 4 (l2065.map cS122)))]) (by simp; exact Sub.table (by simp) (by simp)) ?_
        refine AW.skip ?_
        refine thenQ_normal ?_
        refine AW.seqN (fun ((v2238, l2239) : (Bool × (List S122))) => mk 123 [] [(1, .d (.lit (.bool v2238))), (2, .ptr 2 0 0), (4, .ptr 4 0 0), (8, .ref 25 0 l2239.length), (9, .d (.lit (.int .i64 v535))), (10, .d (.lit (.int .i64 r1994))), (11, .d (.lit (.int .i64 v2066)))] [(2, some (.box [.d (.sl (a0.Sizes.map (cI .i64))), .d (.sl (a0.Selectivities.map cS115))])), (4, some (.box [.d (.lit (.int .i64 0)), .d (.lit (.slice none 0 0))])), (25, some (.arr 122 4 (l2239.map cS122)))]) h ?_ ?_ <;> clear h
        ·intro o h
         refine AW.block ?_
         refine AW.seqR ?_
         replace h := lsome h; obtain ⟨v2240, hv2240, h⟩ := h
         refine Chain.runK [] 4 fun K hK => ?_; simp [hv2240]; refine hK _ _ ?_; clear hK K
         refine Chain.sub (S' := mk 123 [] [(1, .d (.lit (.bool v2064))), (2, .ptr 2 0 0), (4, .ptr 4 0 0), (8, .ref 25 0 l2065.length), (9, .d (.lit (.int .i64 v535))), (10, .d (.lit (.int .i64 r1994))), (11, .d (.lit (.int .i64 v2066))), (12, .d (.lit (.int .i64 v2240)))] [(2, some (.box [.d (.sl (a0.Sizes.map (cI .i64))), .d (.sl (a0.Selectivities.map cS115))])), (4, some (.box [.d (.lit (.int .i64 0)), .d (.lit (.slice none 0 0))])), (25, some (.arr 122 4 (l2065.map cS122)))]) Sub.tt ?_
         refine Chain.nil ?_
         refine AW.seq ?_
         replace h := bsome h; obtain ⟨⟨v2244, v2245⟩, hj, h⟩ := h
         dsimp only at h
         refine AW.cutR (mk 123 [] [(1, .d (.lit (.bool v2244))), (2, .ptr 2 0 0), (4, .ptr 4 0 0), (8, .ref 25 0 l2065.length), (9, .d (.lit (.int .i64 v535))), (10, .d (.lit (.int .i64 r1994))), (11, .d (.lit (.int .i64 v2066))), (12, .d (.lit (.int .i64 v2240))), (66, .d (.lit (.bool v2245)))] [(2, some (.box [.d (.sl (a0.Sizes.map (cI .i64))), .d (.sl (a0.Selectivities.map cS115))])), (4, some (.box [.d (.lit (.int .i64 0)), .d (.lit (.slice none 0 0))])), (25, some (.arr 122 4 (l2065.map cS122)))]) ?_ ?_
         ·clear h; have h := hj; clear hj
          refine Chain.runK [] 2 fun K hK => ?_; simp; refine hK _ _ ?_; clear hK K
          refine Chain.sub (S' := mk 123 [] [(1, .d (.lit (.bool v2064))), (2, .ptr 2 0 0), (4, .ptr 4 0 0), (8, .ref 25 0 l2065.length), (9, .d (.lit (.int .i64 v535))), (10, .d (.lit (.int .i64 r1994))), (11, .d (.lit (.int .i64 v2066))), (12, .d (.lit (.int .i64 v2240))), (61, .d (.lit (.bool v2064)))] [(2, some (.box [.d (.sl (a0.Sizes.map (cI .i64))), .d (.sl (a0.Selectivities.map cS115))])), (4, some (.box [.d (.lit (.int .i64 0)), .d (.lit (.slice none 0 0))])), (25, some (.arr 122 4 (l2065.map cS122)))]) Sub.tt ?_
          replace h := isome h; rcases h with ⟨c2246, h⟩ | ⟨c2246, h⟩
          ·have c2246_ : v2064 = true := c2246
           refine Chain.sub (Sub.bool 1 (b := v2064) rfl c2246_) ?_
           refine Chain.sub (Sub.bool 61 (b := v2064) rfl c2246_) ?_
           refine Chain.sub (S' := mk 123 [] [(1, .d (.lit (.bool true))), (2, .ptr 2 0 0), (4, .ptr 4 0 0), (8, .ref 25 0 l2065.length), (9, .d (.lit (.int .i64 v535))), (10, .d (.lit (.int .i64 r1994))), (11, .d (.lit (.int .i64 v2066))), (12, .d (.lit (.int .i64 v2240))), (61, .d (.lit (.bool true)))] [(2, some (.box [.d (.sl (a0.Sizes.map (cI .i64))), .d (.sl (a0.Selectivities.map cS115))])), (4, some (.box [.d (.lit (.int .i64 0)), .d (.lit (.slice none 0 0))])), (25, some (.arr 122 4 (l2065.map cS122)))]) (by simp; exact Sub.table (by simp) (by simp)) ?_
           replace h := lsome h; obtain ⟨v2247, hv2247, h⟩ := h
           refine Chain.runK [] 2 fun K hK => ?_; simp [hv2247]; refine hK _ _ ?_; clear hK K
           refine Chain.sub (S' := mk 123 [] [(1, .d (.lit (.bool true))), (2, .ptr 2 0 0), (4, .ptr 4 0 0), (8, .ref 25 0 l2065.length), (9, .d (.lit (.int .i64 v535))), (10, .d (.lit (.int .i64 r1994))), (11, .d (.lit (.int .i64 v2066))), (12, .d (.lit (.int .i64 v2240))), (61, .d (.lit (.bool true))), (62, .d (.lit (.int .i64 v2240))), (63, .d (.lit (.int .u64 v2247)))] [(2, some (.box [.d (.sl (a0.Sizes.map (cI .i64))), .d (.sl (a0.Selectivities.map cS115))])), (4, some (.box [.d (.lit (.int .i64 0)), .d (.lit (.slice none 0 0))])), (25, some (.arr 122 4 (l2065.map cS122)))]) Sub.tt ?_
           replace h := bsome h; obtain ⟨r2248, hr2248, h⟩ := h
           refine Chain.callL (d := 64) (p51 N v2247 r2248 hr2248) (by simp) rfl rfl (by simp <;> rfl) (by simp <;> rfl) ent51 (by simp <;> rfl) ?_
           refine Chain.sub (S' := mk 123 [] [(1, .d (.lit (.bool true))), (2, .ptr 2 0 0), (4, .ptr 4 0 0), (8, .ref 25 0 l2065.length), (9, .d (.lit (.int .i64 v535))), (10, .d (.lit (.int .i64 r1994))), (11, .d (.lit (.int .i64 v2066))), (12, .d (.lit (.int .i64 v2240))), (61, .d (.lit (.bool true))), (62, .d (.lit (.int .i64 v2240))), (63, .d (.lit (.int .u64 v2247))), (64, .d (.lit (.int .i64 r2248)))] [(2, some (.box [.d (.sl (a0.Sizes.map (cI .i64))), .d (.sl (a0.Selectivities.map cS115))])), (4, some (.box [.d (.lit (.int .i64 0)), .d (.lit (.slice none 0 0))])), (25, some (.arr 122 4 (l2065.map cS122)))]) (by simp; exact Sub.table (by simp) (by simp)) ?_
           refine Chain.runK [] 2 fun K hK => ?_; simp; refine hK _ _ ?_; clear hK K
           refine Chain.sub (S' := mk 123 [] [(1, .d (.lit (.bool true))), (2, .ptr 2 0 0), (4, .ptr 4 0 0), (8, .ref 25 0 l2065.length), (9, .d (.lit (.int .i64 v535))), (10, .d (.lit (.int .i64 r1994))), (11, .d (.lit (.int .i64 v2066))), (12, .d (.lit (.int .i64 v2240))), (62, .d (.lit (.int .i64 v2240))), (63, .d (.lit (.int .u64 v2247))), (64, .d (.lit (.int .i64 r2248))), (65, .d (.lit (.bool (decide (r2248 > 1))))), (66, .d (.lit (.bool (decide (r2248 > 1)))))] [(2, some (.box [.d (.sl (a0.Sizes.map (cI .i64))), .d (.sl (a0.Selectivities.map cS115))])), (4, some (.box [.d (.lit (.int .i64 0)), .d (.lit (.slice none 0 0))])), (25, some (.arr 122 4 (l2065.map cS122)))]) Sub.tt ?_
           cases h
           exact Chain.nil Sub.tt
          ·have c2246_ : v2064 = false := Bool.eq_false_iff.2 c2246
           refine Chain.sub (Sub.bool 1 (b := v2064) rfl c2246_) ?_
           refine Chain.sub (Sub.bool 61 (b := v2064) rfl c2246_) ?_
           refine Chain.sub (S' := mk 123 [] [(1, .d (.lit (.bool false))), (2, .ptr 2 0 0), (4, .ptr 4 0 0), (8, .ref 25 0 l2065.length), (9, .d (.lit (.int .i64 v535))), (10, .d (.lit (.int .i64 r1994))), (11, .d (.lit (.int .i64 v2066))), (12, .d (.lit (.int .i64 v2240))), (61, .d (.lit (.bool false)))] [(2, some (.box [.d (.sl (a0.Sizes.map (cI .i64))), .d (.sl (a0.Selectivities.map cS115))])), (4, some (.box [.d (.lit (.int .i64 0)), .d (.lit (.slice none 0 0))])), (25, some (.arr 122 4 (l2065.map cS122)))]) (by simp; exact Sub.table (by simp) (by simp)) ?_
           refine Chain.runK [] 5 fun K hK => ?_; simp; refine hK _ _ ?_; clear hK K
           refine Chain.sub (S' := mk 123 [] [(1, .d (.lit (.bool false))), (2, .ptr 2 0 0), (4, .ptr 4 0 0), (8, .ref 25 0 l2065.length), (9, .d (.lit (.int .i64 v535))), (10, .d (.lit (.int .i64 r1994))), (11, .d (.lit (.int .i64 v2066))), (12, .d (.lit (.int .i64 v2240))), (62, .tup []), (63, .tup []), (64, .tup []), (65, .tup []), (66, .d (.lit (.bool false)))] [(2, some (.box [.d (.sl (a0.Sizes.map (cI .i64))), .d (.sl (a0.Selectivities.map cS115))])), (4, some (.box [.d (.lit (.int .i64 0)), .d (.lit (.slice none 0 0))])), (25, some (.arr 122 4 (l2065.map cS122)))]) Sub.tt ?_
           cases h
           exact Chain.nil Sub.tt
         ·clear hj
          replace h := isome h; rcases h with ⟨c2249, h⟩ | ⟨c2249, h⟩
          ·have c2249_ : v2245 = true := c2249
           refine AW.condT (b := v2245) rfl c2249_ ?_
           refine AW.sub (Sub.bool 66 (b := v2245) rfl c2249_) ?_
           refine AW.sub (S' := mk 123 [] [(1, .d (.lit (.bool v2244))), (2, .ptr 2 0 0), (4, .ptr 4 0 0), (8, .ref 25 0 l2065.length), (9, .d (.lit (.int .i64 v535))), (10, .d (.lit (.int .i64 r1994))), (11, .d (.lit (.int .i64 v2066))), (12, .d (.lit (.int .i64 v2240))), (66, .d (.lit (.bool true)))] [(2, some (.box [.d (.sl (a0.Sizes.map (cI .i64))), .d (.sl (a0.Selectivities.map cS115))])), (4, some (.box [.d (.lit (.int .i64 0)), .d (.lit (.slice none 0 0))])), (25, some (.arr 122 4 (l2065.map cS122)))]) (by simp; exact Sub.table (by simp) (by simp)) ?_
           refine AW.exit ?_
           cases h
           refine thenQ_pass (by simp) ?_
           refine blockQ.hit ?_
           refine PostN.next ?_
           exact Sub.tt
          ·have c2249_ : v2245 = false := Bool.eq_false_iff.2 c2249
           refine AW.condF (b := v2245) rfl c2249_ ?_
           refine AW.sub (Sub.bool 66 (b := v2245) rfl c2249_) ?_
           refine AW.sub (S' := mk 123 [] [(1, .d (.lit (.bool v2244))), (2, .ptr 2 0 0), (4, .ptr 4 0 0), (8, .ref 25 0 l2065.length), (9, .d (.lit (.int .i64 v535))), (10, .d (.lit (.int .i64 r1994))), (11, .d (.lit (.int .i64 v2066))), (12, .d (.lit (.int .i64 v2240))), (66, .d (.lit (.bool false)))] [(2, some (.box [.d (.sl (a0.Sizes.map (cI .i64))), .d (.sl (a0.Selectivities.map cS115))])), (4, some (.box [.d (.lit (.int .i64 0)), .d (.lit (.slice none 0 0))])), (25, some (.arr 122 4 (l2065.map cS122)))]) (by simp; exact Sub.table (by simp) (by simp)) ?_
           refine AW.skip ?_
           refine thenQ_normal ?_
           refine AW.seqQ (by kernel_rfl) (by kernel_rfl) ?_
           replace h := bsome h; obtain ⟨x2250, hx2250, h⟩ := h
           obtain ⟨k2251, hx2250k, hx2250, hx2250a, hx2250b⟩ := idx_some hx2250
           replace h := bsome h; obtain ⟨x2252, hx2252, h⟩ := h
           obtain ⟨k2253, hx2252k, hx2252, hx2252a, hx2252b⟩ := idx_some hx2252
           replace h := bsome h; obtain ⟨v2254, hv2254, h⟩ := h
           have hv2254 := chkI_some hv2254
           replace h := bsome h; obtain ⟨v2255, hv2255, h⟩ := h
           have hv2255 := chkI_some hv2255
           refine Chain.runQ 14 fun K hK => ?_; simp [hx2250, hx2250k, hx2250a, hx2250b, hx2252, hx2252k, hx2252a, hx2252b, hv2254, hv2255]; refine hK _ _ ?_; clear hK K
           refine Chain.sub (S' := mk 123 [] [(1, .d (.lit (.bool v2244))), (2, .ptr 2 0 0), (4, .ptr 4 0 0), (8, .ref 25 0 l2065.length), (9, .d (.lit (.int .i64 v535))), (10, .d (.lit (.int .i64 r1994))), (11, .d (.lit (.int .i64 v2066))), (12, .d (.lit (.int .i64 v2240))), (13, .d (.lit (.int .i64 v2255)))] [(2, some (.box [.d (.sl (a0.Sizes.map (cI .i64))), .d (.sl (a0.Selectivities.map cS115))])), (4, some (.box [.d (.lit (.int .i64 0)), .d (.lit (.slice none 0 0))])), (25, some (.arr 122 4 (l2065.map cS122)))]) Sub.tt ?_
           refine Chain.nil ?_
           replace h := bsome h; obtain ⟨v2259, hj, h⟩ := h
           refine AW.cutR (mk 123 [] [(1, .d (.lit (.bool v2244))), (2, .ptr 2 0 0), (4, .ptr 4 0 0), (8, .ref 25 0 l2065.length), (9, .d (.lit (.int .i64 v535))), (10, .d (.lit (.int .i64 r1994))), (11, .d (.lit (.int .i64 v2066))), (12, .d (.lit (.int .i64 v2240))), (13, .d (.lit (.int .i64 v2255))), (94, .d (.lit (.bool v2259)))] [(2, some (.box [.d (.sl (a0.Sizes.map (cI .i64))), .d (.sl (a0.Selectivities.map cS115))])), (4, some (.box [.d (.lit (.int .i64 0)), .d (.lit (.slice none 0 0))])), (25, some (.arr 122 4 (l2065.map cS122)))]) ?_ ?_
           ·clear h; have h := hj; clear hj
            replace h := bsome h; obtain ⟨x2260, hx2260, h⟩ := h
            obtain ⟨k2261, hx2260k, hx2260, hx2260a, hx2260b⟩ := idx_some hx2260
            refine Chain.runK [] 7 fun K hK => ?_; simp [hx2260, hx2260k, hx2260a, hx2260b]; refine hK _ _ ?_; clear hK K
            refine Chain.sub (S' := mk 123 [] [(1, .d (.lit (.bool v2244))), (2, .ptr 2 0 0), (4, .ptr 4 0 0), (8, .ref 25 0 l2065.length), (9, .d (.lit (.int .i64 v535))), (10, .d (.lit (.int .i64 r1994))), (11, .d (.lit (.int .i64 v2066))), (12, .d (.lit (.int .i64 v2240))), (13, .d (.lit (.int .i64 v2255))), (86, .d (.lit (.bool (!x2260.ok))))] [(2, some (.box [.d (.sl (a0.Sizes.map (cI .i64))), .d (.sl (a0.Selectivities.map cS115))])), (4, some (.box [.d (.lit (.int .i64 0)), .d (.lit (.slice none 0 0))])), (25, some (.arr 122 4 (l2065.map cS122)))]) Sub.tt ?_
            replace h := isome h; rcases h with ⟨c2262, h⟩ | ⟨c2262, h⟩
            ·have c2262_ : (!x2260.ok) = true := c2262
             refine Chain.sub (Sub.bool 86 (b := (!x2260.ok)) rfl c2262_) ?_
             refine Chain.sub (S' := mk 123 [] [(1, .d (.lit (.bool v2244))), (2, .ptr 2 0 0), (4, .ptr 4 0 0), (8, .ref 25 0 l2065.length), (9, .d (.lit (.int .i64 v535))), (10, .d (.lit (.int .i64 r1994))), (11, .d (.lit (.int .i64 v2066))), (12, .d (.lit (.int .i64 v2240))), (13, .d (.lit (.int .i64 v2255))), (86, .d (.lit (.bool true)))] [(2, some (.box [.d (.sl (a0.Sizes.map (cI .i64))), .d (.sl (a0.Selectivities.map cS115))])), (4, some (.box [.d (.lit (.int .i64 0)), .d (.lit (.slice none 0 0))])), (25, some (.arr 122 4 (l2065.map cS122)))]) (by simp; exact Sub.table (by simp) (by simp)) ?_
             refine Chain.runK [] 8 fun K hK => ?_; simp; refine hK _ _ ?_; clear hK K
             refine Chain.sub (S' := mk 123 [] [(1, .d (.lit (.bool v2244))), (2, .ptr 2 0 0), (4, .ptr 4 0 0), (8, .ref 25 0 l2065.length), (9, .d (.lit (.int .i64 v535))), (10, .d (.lit (.int .i64 r1994))), (11, .d (.lit (.int .i64 v2066))), (12, .d (.lit (.int .i64 v2240))), (13, .d (.lit (.int .i64 v2255))), (87, .tup []), (88, .tup []), (89, .tup []), (90, .tup []), (91, .tup []), (92, .tup []), (93, .tup []), (94, .d (.lit (.bool true)))] [(2, some (.box [.d (.sl (a0.Sizes.map (cI .i64))), .d (.sl (a0.Selectivities.map cS115))])), (4, some (.box [.d (.lit (.int .i64 0)), .d (.lit (.slice none 0 0))])), (25, some (.arr 122 4 (l2065.map cS122)))]) Sub.tt ?_
             cases h
             exact Chain.nil Sub.tt
            ·have c2262_ : (!x2260.ok) = false := Bool.eq_false_iff.2 c2262
             refine Chain.sub (Sub.bool 86 (b := (!x2260.ok)) rfl c2262_) ?_
             refine Chain.sub (S' := mk 123 [] [(1, .d (.lit (.bool v2244))), (2, .ptr 2 0 0), (4, .ptr 4 0 0), (8, .ref 25 0 l2065.length), (9, .d (.lit (.int .i64 v535))), (10, .d (.lit (.int .i64 r1994))), (11, .d (.lit (.int .i64 v2066))), (12, .d (.lit (.int .i64 v2240))), (13, .d (.lit (.int .i64 v2255))), (86, .d (.lit (.bool false)))] [(2, some (.box [.d (.sl (a0.Sizes.map (cI .i64))), .d (.sl (a0.Selectivities.map cS115))])), (4, some (.box [.d (.lit (.int .i64 0)), .d (.lit (.slice none 0 0))])), (25, some (.arr 122 4 (l2065.map cS122)))]) (by simp; exact Sub.table (by simp) (by simp)) ?_
             refine Chain.runK [] 8 fun K hK => ?_; simp [hx2260, hx2260k, hx2260a, hx2260b]; refine hK _ _ ?_; clear hK K
             refine Chain.sub (S' := mk 123 [] [(1, .d (.lit (.bool v2244))), (2, .ptr 2 0 0), (4, .ptr 4 0 0), (8, .ref 25 0 l2065.length), (9, .d (.lit (.int .i64 v535))), (10, .d (.lit (.int .i64 r1994))), (11, .d (.lit (.int .i64 v2066))), (12, .d (.lit (.int .i64 v2240))), (13, .d (.lit (.int .i64 v2255))), (87, .d (.lit (.int .i64 v2255))), (88, .ref 25 0 l2065.length), (89, .d (.lit (.int .i64 v535))), (90, .ptr 25 k2261 0), (91, .ptr 25 k2261 2), (92, .d (.lit (.int .i64 x2260.cost))), (93, .d (.lit (.bool (decide (v2255 < x2260.cost))))), (94, .d (.lit (.bool (decide (v2255 < x2260.cost)))))] [(2, some (.box [.d (.sl (a0.Sizes.map (cI .i64))), .d (.sl (a0.Selectivities.map cS115))])), (4, some (.box [.d (.lit (.int .i64 0)), .d (.lit (.slice none 0 0))])), (25, some (.arr 122 4 (l2065.map cS122)))]) Sub.tt ?_
             cases h
             exact Chain.nil Sub.tt
           ·clear hj
            replace h := isome h; rcases h with ⟨c2263, h⟩ | ⟨c2263, h⟩
            ·have c2263_ : v2259 = true := c2263
             refine AW.condT (b := v2259) rfl c2263_ ?_
             refine AW.sub (Sub.bool 94 (b := v2259) rfl c2263_) ?_
             refine AW.sub (S' := mk 123 [] [(1, .d (.lit (.bool v2244))), (2, .ptr 2 0 0), (4, .ptr 4 0 0), (8, .ref 25 0 l2065.length), (9, .d (.lit (.int .i64 v535))), (10, .d (.lit (.int .i64 r1994))), (11, .d (.lit (.int .i64 v2066))), (12, .d (.lit (.int .i64 v2240))), (13, .d (.lit (.int .i64 v2255))), (94, .d (.lit (.bool true)))] [(2, some (.box [.d (.sl (a0.Sizes.map (cI .i64))), .d (.sl (a0.Selectivities.map cS115))])), (4, some (.box [.d (.lit (.int .i64 0)), .d (.lit (.slice none 0 0))])), (25, some (.arr 122 4 (l2065.map cS122)))]) (by simp; exact Sub.table (by simp) (by simp)) ?_
             replace h := bsome h; obtain ⟨x2264, hx2264, h⟩ := h
             obtain ⟨k2265, hx2264k, hx2264, hx2264a, hx2264b⟩ := idx_some hx2264
             replace h := bsome h; obtain ⟨x2266, hx2266, h⟩ := h
             obtain ⟨k2267, hx2266k, hx2266, hx2266a, hx2266b⟩ := idx_some hx2266
             replace h := bsome h; obtain ⟨x2268, hx2268, h⟩ := h
             obtain ⟨k2269, hx2268k, hx2268, hx2268a, hx2268b⟩ := idx_some hx2268
             replace h := lsome h; obtain ⟨l2270, gl2270, h⟩ := h
             obtain ⟨hl2270, hl2270n⟩ := setI_some cS122 gl2270 hx2268k
             replace hl2270 : (l2065.map cS122).set k2269 [.lit (.int .i64 0), .sl (([x2264.tree, x2266.tree] : List S28).map cS28), .lit (.int .i64 v2255), .lit (.bool true)] = l2270.map cS122 := hl2270
             simp only [List.map_cons, List.map_nil, cS28_def] at hl2270
             clear gl2270
             refine AW.lastAnyS [[], [], [], [], [2, 3], [2, 3, 4], [2, 3, 4, 5], [], [], [7, 8], [7, 8, 9], [7, 8, 9, 10], [2, 3, 4, 5, 6, 7, 8, 9, 10, 11], [2, 3, 4, 5, 6, 7, 8, 9, 10, 11, 12], [], [2, 3, 4, 5, 6, 7, 8, 9, 10, 11, 12, 13, 14], [0, 1, 2, 3, 4, 5, 6, 7, 8, 9, 10, 11, 12, 13, 14, 15], [0, 1, 2, 3, 4, 5, 6, 7, 8, 9, 10, 11, 12, 13, 14, 15, 16]] (fun (b : Nat → Bool) => mk 123 [] [(1, .d (.lit (.bool v2244))), (2, .ptr 2 0 0), (4, .ptr 4 0 0), (8, (if b 17 then .ref 25 0 l2270.length else .ref 25 0 l2065.length)), (9, .d (.lit (.int .i64 v535))), (10, .d (.lit (.int .i64 r1994))), (11, .d (.lit (.int .i64 v2066))), (12, .d (.lit (.int .i64 v2240))), (13, .d (.lit (.int .i64 v2255))), (95, (if b 17 then .ref 25 0 l2270.length else (if b 0 then .ref 25 0 l2065.length else .junk))), (96, (if b 1 then .d (.lit (.int .i64 v535)) else .junk)), (97, (if b 17 then .ref 25 0 l2270.length else (if b 2 then .ref 25 0 l2065.length else .junk))), (98, (if b 3 then .d (.lit (.int .i64 v2066)) else .junk)), (99, (if b 4 then .ptr 25 k2265 0 else .junk)), (100, (if b 5 then .ptr 25 k2265 0 else .junk)), (101, (if b 6 then .agg [.d (.lit (.int .i64 x2264.tree.Leaf)), .d (.sl (x2264.tree.Children.map cS28))] else .junk)), (102, (if b 17 then .ref 25 0 l2270.length else (if b 7 then .ref 25 0 l2065.length else .junk))), (103, (if b 8 then .d (.lit (.int .i64 v2240)) else .junk)), (104, (if b 9 then .ptr 25 k2267 0 else .junk)), (105, (if b 10 then .ptr 25 k2267 0 else .junk)), (106, (if b 11 then .agg [.d (.lit (.int .i64 x2266.tree.Leaf)), .d (.sl (x2266.tree.Children.map cS28))] else .junk)), (107, (if b 12 then .d (.sl (([x2264.tree, x2266.tree] : List S28).map cS28)) else .junk)), (108, (if b 13 then .agg [.d (.lit (.int .i64 0)), .d (.sl (([x2264.tree, x2266.tree] : List S28).map cS28))] else .junk)), (109, (if b 14 then .d (.lit (.int .i64 v2255)) else .junk)), (110, (if b 15 then .agg [.d (.lit (.int .i64 0)), .d (.sl (([x2264.tree, x2266.tree] : List S28).map cS28)), .d (.lit (.int .i64 v2255)), .d (.lit (.bool true))] else .junk)), (111, (if b 16 then .ptr 25 k2269 0 else .junk))] [(2, some (.box [.d (.sl (a0.Sizes.map (cI .i64))), .d (.sl (a0.Selectivities.map cS115))])), (4, some (.box [.d (.lit (.int .i64 0)), .d (.lit (.slice none 0 0))])), (25, (if b 17 then some (.arr 122 4 (l2270.map cS122)) else some (.arr 122 4 (l2065.map cS122))))]) (mk 123 [] [(1, .d (.lit (.bool v2244))), (2, .ptr 2 0 0), (4, .ptr 4 0 0), (8, .ref 25 0 l2270.length), (9, .d (.lit (.int .i64 v535))), (10, .d (.lit (.int .i64 r1994))), (11, .d (.lit (.int .i64 v2066)))] [(2, some (.box [.d (.sl (a0.Sizes.map (cI .i64))), .d (.sl (a0.Selectivities.map cS115))])), (4, some (.box [.d (.lit (.int .i64 0)), .d (.lit (.slice none 0 0))])), (25, some (.arr 122 4 (l2270.map cS122)))]) (by kernel_rfl) (by kernel_rfl) Sub.tt (Steps.cons ?_ (Steps.cons ?_ (Steps.cons ?_ (Steps.cons ?_ (Steps.cons ?_ (Steps.cons ?_ (Steps.cons ?_ (Steps.cons ?_ (Steps.cons ?_ (Steps.cons ?_ (Steps.cons ?_ (Steps.cons ?_ (Steps.cons ?_ (Steps.cons ?_ (Steps.cons ?_ (Steps.cons ?_ (Steps.cons ?_ (Steps.cons ?_ (Steps.nil))))))))))))))))))) ?_ ?_
             ·intro b h0 ha hd
              have f16 : b 16 = false := hd 16 (by decide)
              have f17 : b 17 = false := hd 17 (by decide)
              refine Chain.runK [] 1 fun K hK => ?_; simp [h0, f16, f17]; refine hK _ _ ?_; clear hK K
              exact Chain.nil (Sub.table (by simp [f16, f17]) (by simp [f17]))
             ·intro b h0 ha hd
              have f16 : b 16 = false := hd 16 (by decide)
              have f17 : b 17 = false := hd 17 (by decide)
              refine Chain.runK [] 1 fun K hK => ?_; simp [h0, f16, f17]; refine hK _ _ ?_; clear hK K
              exact Chain.nil (Sub.table (by simp [f16, f17]) (by simp [f17]))
             ·intro b h0 ha hd
              have f4 : b 4 = false := hd 4 (by decide)
              have f5 : b 5 = false := hd 5 (by decide)
              have f6 : b 6 = false := hd 6 (by decide)
              have f12 : b 12 = false := hd 12 (by decide)
              have f13 : b 13 = false := hd 13 (by decide)
              have f15 : b 15 = false := hd 15 (by decide)
              have f16 : b 16 = false := hd 16 (by decide)
              have f17 : b 17 = false := hd 17 (by decide)
              refine Chain.runK [] 1 fun K hK => ?_; simp [h0, f4, f5, f6, f12, f13, f15, f16, f17]; refine hK _ _ ?_; clear hK K
              exact Chain.nil (Sub.table (by simp [f4, f5, f6, f12, f13, f15, f16, f17]) (by simp [f17]))
             ·intro b h0 ha hd
              have f4 : b 4 = false := hd 4 (by decide)
              have f5 : b 5 = false := hd 5 (by decide)
              have f6 : b 6 = false := hd 6 (by decide)
              have f12 : b 12 = false := hd 12 (by decide)
              have f13 : b 13 = false := hd 13 (by decide)
              have f15 : b 15 = false := hd 15 (by decide)
              have f16 : b 16 = false := hd 16 (by decide)
              have f17 : b 17 = false := hd 17 (by decide)
              refine Chain.runK [] 1 fun K hK => ?_; simp [h0, f4, f5, f6, f12, f13, f15, f16, f17]; refine hK _ _ ?_; clear hK K
              exact Chain.nil (Sub.table (by simp [f4, f5, f6, f12, f13, f15, f16, f17]) (by simp [f17]))
             ·intro b h0 ha hd
              have t2 : b 2 = true := ha 2 (by decide)
              have t3 : b 3 = true := ha 3 (by decide)
              have f5 : b 5 = false := hd 5 (by decide)
              have f6 : b 6 = false := hd 6 (by decide)
              have f12 : b 12 = false := hd 12 (by decide)
              have f13 : b 13 = false := hd 13 (by decide)
              have f15 : b 15 = false := hd 15 (by decide)
              have f16 : b 16 = false := hd 16 (by decide)
              have f17 : b 17 = false := hd 17 (by decide)
              refine Chain.runK [] 1 fun K hK => ?_; simp [h0, t2, t3, f5, f6, f12, f13, f15, f16, f17, hx2264k, hx2264a, hx2264b]; refine hK _ _ ?_; clear hK K
              exact Chain.nil (Sub.table (by simp [t2, t3, f5, f6, f12, f13, f15, f16, f17]) (by simp [f17]))
             ·intro b h0 ha hd
              have t2 : b 2 = true := ha 2 (by decide)
              have t3 : b 3 = true := ha 3 (by decide)
              have t4 : b 4 = true := ha 4 (by decide)
              have f6 : b 6 = false := hd 6 (by decide)
              have f12 : b 12 = false := hd 12 (by decide)
              have f13 : b 13 = false := hd 13 (by decide)
              have f15 : b 15 = false := hd 15 (by decide)
              have f16 : b 16 = false := hd 16 (by decide)
              have f17 : b 17 = false := hd 17 (by decide)
              refine Chain.runK [] 1 fun K hK => ?_; simp [h0, t2, t3, t4, f6, f12, f13, f15, f16, f17]; refine hK _ _ ?_; clear hK K
              exact Chain.nil (Sub.table (by simp [t2, t3, t4, f6, f12, f13, f15, f16, f17]) (by simp [f17]))
             ·intro b h0 ha hd
              have t2 : b 2 = true := ha 2 (by decide)
              have t3 : b 3 = true := ha 3 (by decide)
              have t4 : b 4 = true := ha 4 (by decide)
              have t5 : b 5 = true := ha 5 (by decide)
              have f12 : b 12 = false := hd 12 (by decide)
              have f13 : b 13 = false := hd 13 (by decide)
              have f15 : b 15 = false := hd 15 (by decide)
              have f16 : b 16 = false := hd 16 (by decide)
              have f17 : b 17 = false := hd 17 (by decide)
              refine Chain.runK [] 1 fun K hK => ?_; simp [h0, t2, t3, t4, t5, f12, f13, f15, f16, f17, hx2264]; refine hK _ _ ?_; clear hK K
              exact Chain.nil (Sub.table (by simp [t2, t3, t4, t5, f12, f13, f15, f16, f17]) (by simp [f17]))
             ·intro b h0 ha hd
              have f9 : b 9 = false := hd 9 (by decide)
              have f10 : b 10 = false := hd 10 (by decide)
              have f11 : b 11 = false := hd 11 (by decide)
              have f12 : b 12 = false := hd 12 (by decide)
              have f13 : b 13 = false := hd 13 (by decide)
              have f15 : b 15 = false := hd 15 (by decide)
              have f16 : b 16 = false := hd 16 (by decide)
              have f17 : b 17 = false := hd 17 (by decide)
              refine Chain.runK [] 1 fun K hK => ?_; simp [h0, f9, f10, f11, f12, f13, f15, f16, f17]; refine hK _ _ ?_; clear hK K
              exact Chain.nil (Sub.table (by simp [f9, f10, f11, f12, f13, f15, f16, f17]) (by simp [f17]))
             ·intro b h0 ha hd
              have f9 : b 9 = false := hd 9 (by decide)
              have f10 : b 10 = false := hd 10 (by decide)
              have f11 : b 11 = false := hd 11 (by decide)
              have f12 : b 12 = false := hd 12 (by decide)
              have f13 : b 13 = false := hd 13 (by decide)
              have f15 : b 15 = false := hd 15 (by decide)
              have f16 : b 16 = false := hd 16 (by decide)
              have f17 : b 17 = false := hd 17 (by decide)
              refine Chain.runK [] 1 fun K hK => ?_; simp [h0, f9, f10, f11, f12, f13, f15, f16, f17]; refine hK _ _ ?_; clear hK K
              exact Chain.nil (Sub.table (by simp [f9, f10, f11, f12, f13, f15, f16, f17]) (by simp [f17]))
             ·intro b h0 ha hd
              have t7 : b 7 = true := ha 7 (by decide)
              have t8 : b 8 = true := ha 8 (by decide)
              have f10 : b 10 = false := hd 10 (by decide)
              have f11 : b 11 = false := hd 11 (by decide)
              have f12 : b 12 = false := hd 12 (by decide)
              have f13 : b 13 = false := hd 13 (by decide)
              have f15 : b 15 = false := hd 15 (by decide)
              have f16 : b 16 = false := hd 16 (by decide)
              have f17 : b 17 = false := hd 17 (by decide)
              refine Chain.runK [] 1 fun K hK => ?_; simp [h0, t7, t8, f10, f11, f12, f13, f15, f16, f17, hx2266k, hx2266a, hx2266b]; refine hK _ _ ?_; clear hK K
              exact Chain.nil (Sub.table (by simp [t7, t8, f10, f11, f12, f13, f15, f16, f17]) (by simp [f17]))
             ·intro b h0 ha hd
              have t7 : b 7 = true := ha 7 (by decide)
              have t8 : b 8 = true := ha 8 (by decide)
              have t9 : b 9 = true := ha 9 (by decide)
              have f11 : b 11 = false := hd 11 (by decide)
              have f12 : b 12 = false := hd 12 (by decide)
              have f13 : b 13 = false := hd 13 (by decide)
              have f15 : b 15 = false := hd 15 (by decide)
              have f16 : b 16 = false := hd 16 (by decide)
              have f17 : b 17 = false := hd 17 (by decide)
              refine Chain.runK [] 1 fun K hK => ?_; simp [h0, t7, t8, t9, f11, f12, f13, f15, f16, f17]; refine hK _ _ ?_; clear hK K
              exact Chain.nil (Sub.table (by simp [t7, t8, t9, f11, f12, f13, f15, f16, f17]) (by simp [f17]))
             ·intro b h0 ha hd
              have t7 : b 7 = true := ha 7 (by decide)
              have t8 : b 8 = true := ha 8 (by decide)
              have t9 : b 9 = true := ha 9 (by decide)
              have t10 : b 10 = true := ha 10 (by decide)
              have f12 : b 12 = false := hd 12 (by decide)
              have f13 : b 13 = false := hd 13 (by decide)
              have f15 : b 15 = false := hd 15 (by decide)
              have f16 : b 16 = false := hd 16 (by decide)
              have f17 : b 17 = false := hd 17 (by decide)
              refine Chain.runK [] 1 fun K hK => ?_; simp [h0, t7, t8, t9, t10, f12, f13, f15, f16, f17, hx2266]; refine hK _ _ ?_; clear hK K
              exact Chain.nil (Sub.table (by simp [t7, t8, t9, t10, f12, f13, f15, f16, f17]) (by simp [f17]))
             ·intro b h0 ha hd
              have t2 : b 2 = true := ha 2 (by decide)
              have t3 : b 3 = true := ha 3 (by decide)
              have t4 : b 4 = true := ha 4 (by decide)
              have t5 : b 5 = true := ha 5 (by decide)
              have t6 : b 6 = true := ha 6 (by decide)
              have t7 : b 7 = true := ha 7 (by decide)
              have t8 : b 8 = true := ha 8 (by decide)
              have t9 : b 9 = true := ha 9 (by decide)
              have t10 : b 10 = true := ha 10 (by decide)
              have t11 : b 11 = true := ha 11 (by decide)
              have f13 : b 13 = false := hd 13 (by decide)
              have f15 : b 15 = false := hd 15 (by decide)
              have f16 : b 16 = false := hd 16 (by decide)
              have f17 : b 17 = false := hd 17 (by decide)
              refine Chain.runK [] 1 fun K hK => ?_; simp [h0, t2, t3, t4, t5, t6, t7, t8, t9, t10, t11, f13, f15, f16, f17]; refine hK _ _ ?_; clear hK K
              refine Chain.sub (Sub.freeze 107 rfl) ?_
              exact Chain.nil (by simp [↓frz_ite, t2, t3, t4, t5, t6, t7, t8, t9, t10, t11, f13, f15, f16, f17]; exact Sub.table (by simp) (by simp))
             ·intro b h0 ha hd
              have t2 : b 2 = true := ha 2 (by decide)
              have t3 : b 3 = true := ha 3 (by decide)
              have t4 : b 4 = true := ha 4 (by decide)
              have t5 : b 5 = true := ha 5 (by decide)
              have t6 : b 6 = true := ha 6 (by decide)
              have t7 : b 7 = true := ha 7 (by decide)
              have t8 : b 8 = true := ha 8 (by decide)
              have t9 : b 9 = true := ha 9 (by decide)
              have t10 : b 10 = true := ha 10 (by decide)
              have t11 : b 11 = true := ha 11 (by decide)
              have t12 : b 12 = true := ha 12 (by decide)
              have f15 : b 15 = false := hd 15 (by decide)
              have f16 : b 16 = false := hd 16 (by decide)
              have f17 : b 17 = false := hd 17 (by decide)
              refine Chain.runK [] 1 fun K hK => ?_; simp [h0, t2, t3, t4, t5, t6, t7, t8, t9, t10, t11, t12, f15, f16, f17]; refine hK _ _ ?_; clear hK K
              exact Chain.nil (Sub.table (by simp [t2, t3, t4, t5, t6, t7, t8, t9, t10, t11, t12, f15, f16, f17]) (by simp [f17]))
             ·intro b h0 ha hd
              have f15 : b 15 = false := hd 15 (by decide)
              have f16 : b 16 = false := hd 16 (by decide)
              have f17 : b 17 = false := hd 17 (by decide)
              refine Chain.runK [] 1 fun K hK => ?_; simp [h0, f15, f16, f17]; refine hK _ _ ?_; clear hK K
              exact Chain.nil (Sub.table (by simp [f15, f16, f17]) (by simp [f17]))
             ·intro b h0 ha hd
              have t2 : b 2 = true := ha 2 (by decide)
              have t3 : b 3 = true := ha 3 (by decide)
              have t4 : b 4 = true := ha 4 (by decide)
              have t5 : b 5 = true := ha 5 (by decide)
              have t6 : b 6 = true := ha 6 (by decide)
              have t7 : b 7 = true := ha 7 (by decide)
              have t8 : b 8 = true := ha 8 (by decide)
              have t9 : b 9 = true := ha 9 (by decide)
              have t10 : b 10 = true := ha 10 (by decide)
              have t11 : b 11 = true := ha 11 (by decide)
              have t12 : b 12 = true := ha 12 (by decide)
              have t13 : b 13 = true := ha 13 (by decide)
              have t14 : b 14 = true := ha 14 (by decide)
              have f16 : b 16 = false := hd 16 (by decide)
              have f17 : b 17 = false := hd 17 (by decide)
              refine Chain.runK [] 1 fun K hK => ?_; simp [h0, t2, t3, t4, t5, t6, t7, t8, t9, t10, t11, t12, t13, t14, f16, f17]; refine hK _ _ ?_; clear hK K
              exact Chain.nil (Sub.table (by simp [t2, t3, t4, t5, t6, t7, t8, t9, t10, t11, t12, t13, t14, f16, f17]) (by simp [f17]))
             ·intro b h0 ha hd
              have t0 : b 0 = true := ha 0 (by decide)
              have t1 : b 1 = true := ha 1 (by decide)
              have t2 : b 2 = true := ha 2 (by decide)
              have t3 : b 3 = true := ha 3 (by decide)
              have t4 : b 4 = true := ha 4 (by decide)
              have t5 : b 5 = true := ha 5 (by decide)
              have t6 : b 6 = true := ha 6 (by decide)
              have t7 : b 7 = true := ha 7 (by decide)
              have t8 : b 8 = true := ha 8 (by decide)
              have t9 : b 9 = true := ha 9 (by decide)
              have t10 : b 10 = true := ha 10 (by decide)
              have t11 : b 11 = true := ha 11 (by decide)
              have t12 : b 12 = true := ha 12 (by decide)
              have t13 : b 13 = true := ha 13 (by decide)
              have t14 : b 14 = true := ha 14 (by decide)
              have t15 : b 15 = true := ha 15 (by decide)
              have f17 : b 17 = false := hd 17 (by decide)
              refine Chain.runK [] 1 fun K hK => ?_; simp [h0, t0, t1, t2, t3, t4, t5, t6, t7, t8, t9, t10, t11, t12, t13, t14, t15, f17, hx2268k, hx2268a, hx2268b]; refine hK _ _ ?_; clear hK K
              exact Chain.nil (Sub.table (by simp [t0, t1, t2, t3, t4, t5, t6, t7, t8, t9, t10, t11, t12, t13, t14, t15, f17]) (by simp [f17]))
             ·intro b h0 ha hd
              have t0 : b 0 = true := ha 0 (by decide)
              have t1 : b 1 = true := ha 1 (by decide)
              have t2 : b 2 = true := ha 2 (by decide)
              have t3 : b 3 = true := ha 3 (by decide)
              have t4 : b 4 = true := ha 4 (by decide)
              have t5 : b 5 = true := ha 5 (by decide)
              have t6 : b 6 = true := ha 6 (by decide)
              have t7 : b 7 = true := ha 7 (by decide)
              have t8 : b 8 = true := ha 8 (by decide)
              have t9 : b 9 = true := ha 9 (by decide)
              have t10 : b 10 = true := ha 10 (by decide)
              have t11 : b 11 = true := ha 11 (by decide)
              have t12 : b 12 = true := ha 12 (by decide)
              have t13 : b 13 = true := ha 13 (by decide)
              have t14 : b 14 = true := ha 14 (by decide)
              have t15 : b 15 = true := ha 15 (by decide)
              have t16 : b 16 = true := ha 16 (by decide)
              refine Chain.runK [] 1 fun K hK => ?_; simp [h0, t0, t1, t2, t3, t4, t5, t6, t7, t8, t9, t10, t11, t12, t13, t14, t15, t16, hx2268, hl2270]; refine hK _ _ ?_; clear hK K
              exact Chain.nil (Sub.table (by simp [t1, t3, t4, t5, t6, t8, t9, t10, t11, t12, t13, t14, t15, t16, hl2270n]) (by simp))
             ·intro b hb
              have t0 := hb 0 (by decide)
              have t1 := hb 1 (by decide)
              have t2 := hb 2 (by decide)
              have t3 := hb 3 (by decide)
              have t4 := hb 4 (by decide)
              have t5 := hb 5 (by decide)
              have t6 := hb 6 (by decide)
              have t7 := hb 7 (by decide)
              have t8 := hb 8 (by decide)
              have t9 := hb 9 (by decide)
              have t10 := hb 10 (by decide)
              have t11 := hb 11 (by decide)
              have t12 := hb 12 (by decide)
              have t13 := hb 13 (by decide)
              have t14 := hb 14 (by decide)
              have t15 := hb 15 (by decide)
              have t16 := hb 16 (by decide)
              have t17 := hb 17 (by decide)
              exact Sub.table (by simp [t1, t3, t4, t5, t6, t8, t9, t10, t11, t12, t13, t14, t15, t16, t17]) (by simp [t17])
             ·skip
              cases h
              refine blockQ.normal ?_
              refine PostN.next ?_
              exact Sub.tt
            ·have c2263_ : v2259 = false := Bool.eq_false_iff.2 c2263
             refine AW.condF (b := v2259) rfl c2263_ ?_
             refine AW.sub (Sub.bool 94 (b := v2259) rfl c2263_) ?_
             refine AW.sub (S' := mk 123 [] [(1, .d (.lit (.bool v2244))), (2, .ptr 2 0 0), (4, .ptr 4 0 0), (8, .ref 25 0 l2065.length), (9, .d (.lit (.int .i64 v535))), (10, .d (.lit (.int .i64 r1994))), (11, .d (.lit (.int .i64 v2066))), (12, .d (.lit (.int .i64 v2240))), (13, .d (.lit (.int .i64 v2255))), (94, .d (.lit (.bool false)))] [(2, some (.box [.d (.sl (a0.Sizes.map (cI .i64))), .d (.sl (a0.Selectivities.map cS115))])), (4, some (.box [.d (.lit (.int .i64 0)), .d (.lit (.slice none 0 0))])), (25, some (.arr 122 4 (l2065.map cS122)))]) (by simp; exact Sub.table (by simp) (by simp)) ?_
             refine AW.skip ?_
             cases h
             refine blockQ.normal ?_
             refine PostN.next ?_
             exact Sub.tt
        ·rintro ⟨v2238, l2239⟩ h
         dsimp only at h ⊢
         refine AW.region ?_
         replace h := bsome h; obtain ⟨v2271, hv2271, h⟩ := h
         have hv2271 := chkI_some hv2271
         replace h := lsome h; obtain ⟨v2272, hv2272, h⟩ := h
         refine Chain.runK [] 5 fun K hK => ?_; simp [hv2271, hv2272]; refine hK _ _ ?_; clear hK K
         refine Chain.sub (S' := mk 123 [] [(1, .d (.lit (.bool v2238))), (2, .ptr 2 0 0), (4, .ptr 4 0 0), (8, .ref 25 0 l2239.length), (9, .d (.lit (.int .i64 v535))), (10, .d (.lit (.int .i64 r1994))), (11, .d (.lit (.int .i64 v2272)))] [(2, some (.box [.d (.sl (a0.Sizes.map (cI .i64))), .d (.sl (a0.Selectivities.map cS115))])), (4, some (.box [.d (.lit (.int .i64 0)), .d (.lit (.slice none 0 0))])), (25, some (.arr 122 4 (l2239.map cS122)))]) Sub.tt ?_
         refine Chain.nil ?_
         cases h
         refine PostI.next ?_
         exact Sub.tt
       ·have c2206_ : decide (v2066 > 0) = false := decide_eq_false c2206
        refine AW.condF (b := decide (v2066 > 0)) rfl c2206_ ?_
        refine AW.sub (Sub.bool 52 (b := decide (v2066 > 0)) rfl c2206_) ?_
        refine AW.sub (S' := mk 123 [] [(1, .d (.lit (.bool v2064))), (2, .ptr 2 0 0), (4, .ptr 4 0 0), (8, .ref 25 0 l2065.length), (9, .d (.lit (.int .i64 v535))), (10, .d (.lit (.int .i64 r1994))), (11, .d (.lit (.int .i64 v2066))), (52, .d (.lit (.bool false)))] [(2, some (.box [.d (.sl (a0.Sizes.map (cI .i64))), .d (.sl (a0.Selectivities.map cS115))])), (4, some (.box [.d (.lit (.int .i64 0)), .d (.lit (.slice none 0 0))])), (25, some (.arr 122 4 (l2065.map cS122)))]) (by simp; exact Sub.table (by simp) (by simp)) ?_
        refine AW.exit ?_
        cases h
        refine thenQ_pass (by simp) ?_
        refine PostI.out (by simp) ?_
        rintro rfl
        refine blockQ.hit ?_
        refine PostN.next ?_
        exact Sub.tt
      ·rintro ⟨v2204, l2205⟩ h
       dsimp only at h ⊢
       cases h
       refine blockQ.normal ?_
       refine PostN.next ?_
       exact Sub.tt
    ·rintro ⟨v1984, l1985⟩ h
     dsimp only at h ⊢
     refine AW.region ?_
     replace h := bsome h; obtain ⟨v2273, hv2273, h⟩ := h
     have hv2273 := chkI_some hv2273
     refine Chain.runK [] 3 fun K hK => ?_; simp [hv2273]; refine hK _ _ ?_; clear hK K
     refine Chain.sub (S' := mk 123 [] [(1, .d (.lit (.bool v1984))), (2, .ptr 2 0 0), (4, .ptr 4 0 0), (8, .ref 25 0 l1985.length), (9, .d (.lit (.int .i64 v2273)))] [(2, some (.box [.d (.sl (a0.Sizes.map (cI .i64))), .d (.sl (a0.Selectivities.map cS115))])), (4, some (.box [.d (.lit (.int .i64 0)), .d (.lit (.slice none 0 0))])), (25, some (.arr 122 4 (l1985.map cS122)))]) Sub.tt ?_
     refine Chain.nil ?_
     cases h
     refine PostI.next ?_
     exact Sub.tt
   ·have c1696_ : decide (v535 < (l534.length : Int)) = false := decide_eq_false c1696
    refine AW.condF (b := decide (v535 < (l534.length : Int))) rfl c1696_ ?_
    refine AW.sub (Sub.bool 29 (b := decide (v535 < (l534.length : Int))) rfl c1696_) ?_
    refine AW.sub (S' := mk 123 [] [(1, .d (.lit (.bool v533))), (2, .ptr 2 0 0), (4, .ptr 4 0 0), (8, .ref 25 0 l534.length), (9, .d (.lit (.int .i64 v535))), (29, .d (.lit (.bool false)))] [(2, some (.box [.d (.sl (a0.Sizes.map (cI .i64))), .d (.sl (a0.Selectivities.map cS115))])), (4, some (.box [.d (.lit (.int .i64 0)), .d (.lit (.slice none 0 0))])), (25, some (.arr 122 4 (l534.map cS122)))]) (by simp; exact Sub.table (by simp) (by simp)) ?_
    refine AW.exit ?_
    cases h
    refine thenQ_pass (by simp) ?_
    refine PostI.out (by simp) ?_
    rintro rfl
    refine blockQ.hit ?_
    refine PostN.next ?_
    exact Sub.tt
  ·rintro l1695 h
   refine thenQ_normal ?_
   refine AW.seqR ?_
   replace h := bsome h; obtain ⟨v2274, hv2274, h⟩ := h
   have hv2274 := chkI_some hv2274
   replace h := bsome h; obtain ⟨x2275, hx2275, h⟩ := h
   obtain ⟨k2276, hx2275k, hx2275, hx2275a, hx2275b⟩ := idx_some hx2275
   refine Chain.runK [] 8 fun K hK => ?_; simp [hv2274, hx2275, hx2275k, hx2275a, hx2275b]; refine hK _ _ ?_; clear hK K
   refine Chain.sub (S' := mk 123 [] [(4, .ptr 4 0 0), (14, .ptr 14 0 0)] [(4, some (.box [.d (.lit (.int .i64 0)), .d (.lit (.slice none 0 0))])), (14, some (.box [.d (.lit (.int .i64 x2275.tree.Leaf)), .d (.sl (x2275.tree.Children.map cS28)), .d (.lit (.int .i64 x2275.cost)), .d (.lit (.bool x2275.ok))]))]) Sub.tt ?_
   refine Chain.nil ?_
   replace h := bsome h; obtain ⟨r2277, hr2277, h⟩ := h
   refine AW.seqAnyS [[], [0], [0, 1], [], [3], [0, 1, 2], [0, 1, 2, 3, 4, 5], [0, 1, 2, 3, 4, 5, 6]] (fun (b : Nat → Bool) => mk 123 [] [(4, .ptr 4 0 0), (5, (if b 6 then .d (.lit (.int .i64 x2275.cost)) else .junk)), (6, (if b 7 then .d (.lit (.int .i64 0)) else .junk)), (14, .ptr 14 0 0), (118, (if b 0 then .ptr 14 0 0 else .junk)), (119, (if b 1 then .agg [.d (.lit (.int .i64 x2275.tree.Leaf)), .d (.sl (x2275.tree.Children.map cS28))] else .junk)), (120, (if b 2 then .agg [.d (.lit (.int .i64 r2277.Leaf)), .d (.sl (r2277.Children.map cS28))] else .junk)), (121, (if b 3 then .ptr 14 0 2 else .junk)), (122, (if b 4 then .d (.lit (.int .i64 x2275.cost)) else .junk))] [(4, (if b 5 then some (.box [.d (.lit (.int .i64 r2277.Leaf)), .d (.sl (r2277.Children.map cS28))]) else some (.box [.d (.lit (.int .i64 0)), .d (.lit (.slice none 0 0))]))), (14, some (.box [.d (.lit (.int .i64 x2275.tree.Leaf)), .d (.sl (x2275.tree.Children.map cS28)), .d (.lit (.int .i64 x2275.cost)), .d (.lit (.bool x2275.ok))]))]) (mk 123 [] [(4, .ptr 4 0 0), (5, .d (.lit (.int .i64 x2275.cost))), (6, .d (.lit (.int .i64 0)))] [(4, some (.box [.d (.lit (.int .i64 r2277.Leaf)), .d (.sl (r2277.Children.map cS28))]))]) (by kernel_rfl) (by kernel_rfl) Sub.tt (Steps.cons ?_ (Steps.cons ?_ (Steps.cons ?_ (Steps.cons ?_ (Steps.cons ?_ (Steps.cons ?_ (Steps.cons ?_ (Steps.cons ?_ (Steps.nil))))))))) ?_ ?_
   ·intro b h0 ha hd
    have f1 : b 1 = false := hd 1 (by decide)
    have f2 : b 2 = false := hd 2 (by decide)
    have f5 : b 5 = false := hd 5 (by decide)
    have f6 : b 6 = false := hd 6 (by decide)
    have f7 : b 7 = false := hd 7 (by decide)
    refine Chain.runK [] 1 fun K hK => ?_; simp [h0, f1, f2, f5, f6, f7]; refine hK _ _ ?_; clear hK K
    exact Chain.nil (Sub.table (by simp [f1, f2, f6, f7]) (by simp [f5]))
   ·intro b h0 ha hd
    have t0 : b 0 = true := ha 0 (by decide)
    have f2 : b 2 = false := hd 2 (by decide)
    have f5 : b 5 = false := hd 5 (by decide)
    have f6 : b 6 = false := hd 6 (by decide)
    have f7 : b 7 = false := hd 7 (by decide)
    refine Chain.runK [] 1 fun K hK => ?_; simp [h0, t0, f2, f5, f6, f7]; refine hK _ _ ?_; clear hK K
    exact Chain.nil (Sub.table (by simp [t0, f2, f6, f7]) (by simp [f5]))
   ·intro b h0 ha hd
    have t0 : b 0 = true := ha 0 (by decide)
    have t1 : b 1 = true := ha 1 (by decide)
    have f5 : b 5 = false := hd 5 (by decide)
    have f6 : b 6 = false := hd 6 (by decide)
    have f7 : b 7 = false := hd 7 (by decide)
    simp only [h0, t0, t1, f5, f6, f7, if_true, if_false, Bool.false_eq_true]
    refine Chain.callC (d := 120) (p54 N x2275.tree r2277 hr2277) (by simp) rfl rfl (by simp <;> rfl) (by simp <;> rfl) ent54 (by simp) (.inl ⟨by simp, by simp⟩) ?_
    exact Chain.nil (by simp [t0, t1, f5, f6, f7]; exact Sub.table (by simp) (by simp))
   ·intro b h0 ha hd
    have f4 : b 4 = false := hd 4 (by decide)
    have f6 : b 6 = false := hd 6 (by decide)
    have f7 : b 7 = false := hd 7 (by decide)
    refine Chain.runK [] 1 fun K hK => ?_; simp [h0, f4, f6, f7]; refine hK _ _ ?_; clear hK K
    exact Chain.nil (Sub.table (by simp [f4, f6, f7]) (by simp))
   ·intro b h0 ha hd
    have t3 : b 3 = true := ha 3 (by decide)
    have f6 : b 6 = false := hd 6 (by decide)
    have f7 : b 7 = false := hd 7 (by decide)
    refine Chain.runK [] 1 fun K hK => ?_; simp [h0, t3, f6, f7]; refine hK _ _ ?_; clear hK K
    exact Chain.nil (Sub.table (by simp [t3, f6, f7]) (by simp))
   ·intro b h0 ha hd
    have t0 : b 0 = true := ha 0 (by decide)
    have t1 : b 1 = true := ha 1 (by decide)
    have t2 : b 2 = true := ha 2 (by decide)
    have f6 : b 6 = false := hd 6 (by decide)
    have f7 : b 7 = false := hd 7 (by decide)
    refine Chain.runK [] 1 fun K hK => ?_; simp [h0, t0, t1, t2, f6, f7]; refine hK _ _ ?_; clear hK K
    exact Chain.nil (Sub.table (by simp [t0, t1, t2, f6, f7]) (by simp))
   ·intro b h0 ha hd
    have t0 : b 0 = true := ha 0 (by decide)
    have t1 : b 1 = true := ha 1 (by decide)
    have t2 : b 2 = true := ha 2 (by decide)
    have t3 : b 3 = true := ha 3 (by decide)
    have t4 : b 4 = true := ha 4 (by decide)
    have t5 : b 5 = true := ha 5 (by decide)
    have f7 : b 7 = false := hd 7 (by decide)
    refine Chain.runK [] 1 fun K hK => ?_; simp [h0, t0, t1, t2, t3, t4, t5, f7]; refine hK _ _ ?_; clear hK K
    exact Chain.nil (Sub.table (by simp [t0, t1, t2, t3, t4, f7]) (by simp [t5]))
   ·intro b h0 ha hd
    have t0 : b 0 = true := ha 0 (by decide)
    have t1 : b 1 = true := ha 1 (by decide)
    have t2 : b 2 = true := ha 2 (by decide)
    have t3 : b 3 = true := ha 3 (by decide)
    have t4 : b 4 = true := ha 4 (by decide)
    have t5 : b 5 = true := ha 5 (by decide)
    have t6 : b 6 = true := ha 6 (by decide)
    refine Chain.runK [] 1 fun K hK => ?_; simp [h0, t0, t1, t2, t3, t4, t5, t6]; refine hK _ _ ?_; clear hK K
    exact Chain.nil (Sub.table (by simp [t0, t1, t2, t3, t4, t6]) (by simp [t5]))
   ·intro b hb
    have t0 := hb 0 (by decide)
    have t1 := hb 1 (by decide)
    have t2 := hb 2 (by decide)
    have t3 := hb 3 (by decide)
    have t4 := hb 4 (by decide)
    have t5 := hb 5 (by decide)
    have t6 := hb 6 (by decide)
    have t7 := hb 7 (by decide)
    exact Sub.table (by simp [t0, t1, t2, t3, t4, t6, t7]) (by simp [t5])
   ·skip
    refine AW.ret ?_
    cases h
    exact FinC.ret (by simp) (by simp)

end Go.Proofs.YtimkkjiplioohaaGreatDoor
