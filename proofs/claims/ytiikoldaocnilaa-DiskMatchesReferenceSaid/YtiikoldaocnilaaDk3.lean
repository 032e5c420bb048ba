/- Functions of the program as functional programs; the code computes them. -/
import Derived.Test.YtiikoldaocnilaaDk2
namespace Go.Proofs.Ytiikoldaocnilaa
open Go.Ab Go.Rp
attribute [-simp] List.all_eq_true Array.all_toList Array.all_eq_true

/-- stemma/stemlaw5.DiskMatchesReference -/
def d3 (N : Nat) (a0 : Int) (a1 : (List (List Int))) (a2 : (List (List Int))) (a3 : (List (List Bool))) : Option Bool :=
 (d5 N 2).bind fun r1 =>
 ocase r1.1 (
  Option.bind (α := Unit) (
   if (r1.2 != 0) then (
    some ()
   ) else
   some ()
  ) fun (_ : Unit) =>
  some false
 ) fun r1o =>
 Option.bind (α := Bool) (
  if (r1.2 != 0) then (
   some true
  ) else
  (d6 N r1o 1 ([7] : List Int)).bind fun r10 =>
  if (r10.2 != 0) then (
   some true
  ) else
  (d7 N r10.1).bind fun r12 =>
  some (r12.2 != 1)
 ) fun (v8 : Bool) =>
 if v8 = true then (
  some false
 ) else
 (d5 N a0).bind fun r14 =>
 ocase r14.1 (
  Option.bind (α := Bool) (
   if a0 < 1 then (
    some true
   ) else
   some (decide (a0 > 256))
  ) fun (v16 : Bool) =>
  if v16 = true then (
   Option.bind (α := Bool) (
    if (r14.2 == 1) then (
     some true
    ) else
    some false
   ) fun (v20 : Bool) =>
   some v20
  ) else
  Option.bind (α := Unit) (
   if (r14.2 != 0) then (
    some ()
   ) else
   some ()
  ) fun (_ : Unit) =>
  some false
 ) fun r14o =>
 Option.bind (α := Bool) (
  if a0 < 1 then (
   some true
  ) else
  some (decide (a0 > 256))
 ) fun (v25 : Bool) =>
 if v25 = true then (
  Option.bind (α := Unit) (
   if (r14.2 == 1) then (
    some ()
   ) else
   some ()
  ) fun (_ : Unit) =>
  some false
 ) else
 Option.bind (α := ((List (List Int)) × (List S66) × Bool)) (
  if (r14.2 != 0) then (
   some (r14o.durable, r14o.pending, true)
  ) else
  (d8 N r14o).bind fun r36 =>
  some (r36.1.durable, r36.1.pending, (r36.2 != a0))
 ) fun ((l32, l33, v34) : ((List (List Int)) × (List S66) × Bool)) =>
 if v34 = true then (
  some false
 ) else
 bindO (β := Unit) (ρ := Bool) (
  iterN (σ := ((List (List Int)) × (List S66) × (List (Int × (List Int))) × (List S66) × Int)) (ρ := (Out Unit Bool)) (fun ((l290, l291, m292, l293, v294) : ((List (List Int)) × (List S66) × (List (Int × (List Int))) × (List S66) × Int)) =>
   if v294 < (a1.length : Int) then (
    (idx a1 v294).bind fun x807 =>
    (d9 N x807 1).bind fun r809 =>
    Option.bind (α := Bool) (
     if r809 ≥ 0 then (
      some (decide (r809 < a0))
     ) else
     some false
    ) fun (v811 : Bool) =>
    (d9 N x807 0).bind fun r813 =>
    bindO (β := ((List (List Int)) × (List S66) × (List (Int × (List Int))) × (List S66))) (ρ := (((List (List Int)) × (List S66) × (List (Int × (List Int))) × (List S66) × Int) ⊕ (Out Unit Bool))) (
     if (r813 == 1) then (
      (d9 N x807 2).bind fun r912 =>
      (d10 N a2 r912).bind fun r913 =>
      Option.bind (α := ((List S66) × Int)) (
       if (!v811) = true then (
        some (l293, 1)
       ) else
       if (r913.length : Int) > 32 then (
        some (l293, 2)
       ) else
       if (l293.length : Int) ≥ 1000 then (
        some (l293, 18)
       ) else
       (appL 32 l293 [(S66.mk r809 r913)]).bind fun _l923 =>
       some ((l293 ++ [(S66.mk r809 r913)]), 0)
      ) fun ((l918, v919) : ((List S66) × Int)) =>
      (d6 N (S64.mk l290 l291) r809 r913).bind fun r924 =>
      if (r924.2 != v919) then (
       some (.ret (.inr (.ret false)))
      ) else
      some (.go (r924.1.durable, r924.1.pending, m292, l918))
     ) else
     Option.bind (α := Bool) (
      if (r813 == 2) then (
       some true
      ) else
      some (r813 == 3)
     ) fun (v927 : Bool) =>
     if v927 = true then (
      (d9 N x807 2).bind fun r930 =>
      (d11 N a3 r930).bind fun r931 =>
      (d9 N x807 0).bind fun r932 =>
      Option.bind (α := ((List (List Int)) × (List S66) × Bool)) (
       if (r932 == 2) then (
        (d12 N (S64.mk l290 l291)).bind fun r940 =>
        some (r940.durable, r940.pending, true)
       ) else
       (d13 N (S64.mk l290 l291) r931).bind fun r941 =>
       some (r941.durable, r941.pending, false)
      ) fun ((l936, l937, v938) : ((List (List Int)) × (List S66) × Bool)) =>
      Option.bind (α := List (Int × (List Int))) (
       iterN (σ := ((List (Int × (List Int))) × Bool × Int)) (ρ := List (Int × (List Int))) (fun ((m955, v956, v957) : ((List (Int × (List Int))) × Bool × Int)) =>
        if v957 < (l293.length : Int) then (
         (idx l293 v957).bind fun x991 =>
         Option.bind (α := (Bool × Bool)) (
          if v956 = true then (
           some (true, true)
          ) else
          if v957 < (r931.length : Int) then (
           (idx r931 v957).bind fun x1000 =>
           some (false, x1000)
          ) else
          some (false, false)
         ) fun ((v996, v997) : (Bool × Bool)) =>
         if v997 = true then (
          (chkI (v957 + 1)).bind fun v1002 =>
          some (.inl ((mput m955 x991.sector x991.data), v996, v1002))
         ) else
         (chkI (v957 + 1)).bind fun v1003 =>
         some (.inl (m955, v996, v1003))
        ) else
        some (.inr m955)
       ) N (m292, v938, 0)
      ) fun (m989 : List (Int × (List Int))) =>
      some (.go (l936, l937, m989, ([] : List S66)))
     ) else
     some (.go (l290, l291, m292, l293))
    ) fun ((l907, l908, m909, l910) : ((List (List Int)) × (List S66) × (List (Int × (List Int))) × (List S66))) =>
    (d14 N (S64.mk l907 l908) r809).bind fun r1004 =>
    if (!v811) = true then (
     Option.bind (α := Bool) (
      if (r1004.2.2 != 1) then (
       some true
      ) else
      some ((r1004.2.1.length : Int) != 0)
     ) fun (v1007 : Bool) =>
     if v1007 = true then (
      some (.inr (.ret false))
     ) else
     (d7 N r1004.1).bind fun r1010 =>
     if (r1010.2 != (l910.length : Int)) then (
      some (.inr (.ret false))
     ) else
     (chkI (v294 + 1)).bind fun v1012 =>
     some (.inl (r1010.1.durable, r1010.1.pending, m909, l910, v1012))
    ) else
    letv ((mget m909 r809).getD []) fun v1013 =>
    Option.bind (α := List Int) (
     iterN (σ := ((List Int) × Int)) (ρ := List Int) (fun ((l1019, v1020) : ((List Int) × Int)) =>
      if v1020 < (l910.length : Int) then (
       (idx l910 v1020).bind fun x1037 =>
       if (x1037.sector == r809) then (
        (chkI (v1020 + 1)).bind fun v1040 =>
        some (.inl (x1037.data, v1040))
       ) else
       (chkI (v1020 + 1)).bind fun v1041 =>
       some (.inl (l1019, v1041))
      ) else
      some (.inr l1019)
     ) N (v1013, 0)
    ) fun (l1035 : List Int) =>
    Option.bind (α := Bool) (
     if (r1004.2.2 != 0) then (
      some true
     ) else
     (d16 N l1035).bind fun r1050 =>
     (chkI (32 - (l1035.length : Int))).bind fun v1051 =>
     (natZ v1051).bind fun n1052 =>
     (appL 1 r1050 (List.replicate n1052 0)).bind fun _l1053 =>
     (d15 N r1004.2.1 (r1050 ++ List.replicate n1052 0)).bind fun r1054 =>
     some (!r1054)
    ) fun (v1048 : Bool) =>
    if v1048 = true then (
     some (.inr (.ret false))
    ) else
    (d7 N r1004.1).bind fun r1056 =>
    if (r1056.2 != (l910.length : Int)) then (
     some (.inr (.ret false))
    ) else
    (chkI (v294 + 1)).bind fun v1058 =>
    some (.inl (r1056.1.durable, r1056.1.pending, m909, l910, v1058))
   ) else
   some (.inr (.go ()))
  ) N (l32, l33, ([] : List (Int × (List Int))), ([] : List S66), 0)
 ) fun (_ : Unit) =>
 some true
set_option maxRecDepth 100000 in
set_option maxHeartbeats 4000000 in
theorem p3 (N : Nat) (a0 : Int) (a1 : (List (List Int))) (a2 : (List (List Int))) (a3 : (List (List Bool))) (r : Bool) (h : d3 N a0 a1 a2 a3 = some r) : FunC Try.prog 3 [.d (.lit (.int .i64 a0)), .d (.sl (a1.map (cL (cI .i64)))), .d (.sl (a2.map (cL (cI .u8)))), .d (.sl (a3.map (cL cB)))] (.d (.lit (.bool r))) := by
 unfold d3 at h
 refine FunC.enter 219 [(0, .d (.lit (.int .i64 a0))), (1, .d (.sl (a1.map (cL (cI .i64))))), (2, .d (.sl (a2.map (cL (cI .u8))))), (3, .d (.sl (a3.map (cL cB))))] (by simp) Try.func3 rfl (of_decide_eq_true rfl) rfl rfl ?_
 refine AW.seqR ?_
 refine Chain.runK [] 1 fun K hK => ?_; simp; refine hK _ _ ?_; clear hK K
 refine Chain.sub (S' := mk 219 [] [(0, .d (.lit (.int .i64 a0))), (1, .d (.sl (a1.map (cL (cI .i64))))), (2, .d (.sl (a2.map (cL (cI .u8))))), (3, .d (.sl (a3.map (cL cB))))] []) Sub.tt ?_
 refine Chain.nil ?_
 refine AW.seq ?_
 refine AW.seqR ?_
 replace h := bsome h; obtain ⟨r1, hr1, h⟩ := h
 have Fr1 := p5 N 2 r1 hr1
 rcases osome h with ⟨hr1o, h⟩ | ⟨r1o, hr1o, h⟩
 ·simp only [hr1o, List.append_nil] at Fr1
  refine Chain.callF Fr1 [] [] [] [] (.tup [.d (.lit (.pointer none)), .d (.lit (.int .i64 r1.2))]) (by simp) rfl (by simp <;> rfl) (by simp) (by simp) (by simp) (by simp) (by simp) ent5 (by simp) (by simp) (by simp) (by simp) (by simp) (by simp) ?_
  refine Chain.sub (S' := mk 219 [] [(0, .d (.lit (.int .i64 a0))), (1, .d (.sl (a1.map (cL (cI .i64))))), (2, .d (.sl (a2.map (cL (cI .u8))))), (3, .d (.sl (a3.map (cL cB)))), (31, .tup [.d (.lit (.pointer none)), .d (.lit (.int .i64 r1.2))])] []) (by simp; exact Sub.table (by simp) (by simp)) ?_
  refine Chain.runK [] 5 fun K hK => ?_; simp; refine hK _ _ ?_; clear hK K
  refine Chain.sub (S' := mk 219 [] [(0, .d (.lit (.int .i64 a0))), (1, .d (.sl (a1.map (cL (cI .i64))))), (2, .d (.sl (a2.map (cL (cI .u8))))), (3, .d (.sl (a3.map (cL cB)))), (9, .d (.lit (.pointer none))), (10, .d (.lit (.int .i64 r1.2)))] []) Sub.tt ?_
  refine Chain.nil ?_
  replace h := bsome h; obtain ⟨⟨⟩, hj, h⟩ := h
  refine AW.cutR (mk 219 [] [(0, .d (.lit (.int .i64 a0))), (1, .d (.sl (a1.map (cL (cI .i64))))), (2, .d (.sl (a2.map (cL (cI .u8))))), (3, .d (.sl (a3.map (cL cB)))), (50, .d (.lit (.bool true)))] []) ?_ ?_
  ·clear h; have h := hj; clear hj
   refine Chain.runK [] 3 fun K hK => ?_; simp; refine hK _ _ ?_; clear hK K
   refine Chain.sub (S' := mk 219 [] [(0, .d (.lit (.int .i64 a0))), (1, .d (.sl (a1.map (cL (cI .i64))))), (2, .d (.sl (a2.map (cL (cI .u8))))), (3, .d (.sl (a3.map (cL cB)))), (9, .d (.lit (.pointer none))), (36, .d (.lit (.bool (r1.2 != 0))))] []) Sub.tt ?_
   replace h := isome h; rcases h with ⟨c3, h⟩ | ⟨c3, h⟩
   ·have c3_ : (r1.2 != 0) = true := c3
    refine Chain.sub (Sub.bool 36 (b := (r1.2 != 0)) rfl c3_) ?_
    refine Chain.sub (S' := mk 219 [] [(0, .d (.lit (.int .i64 a0))), (1, .d (.sl (a1.map (cL (cI .i64))))), (2, .d (.sl (a2.map (cL (cI .u8))))), (3, .d (.sl (a3.map (cL cB)))), (9, .d (.lit (.pointer none))), (36, .d (.lit (.bool true)))] []) (by simp; exact Sub.table (by simp) (by simp)) ?_
    refine Chain.runK [] 14 fun K hK => ?_; simp; refine hK _ _ ?_; clear hK K
    refine Chain.sub (S' := mk 219 [] [(0, .d (.lit (.int .i64 a0))), (1, .d (.sl (a1.map (cL (cI .i64))))), (2, .d (.sl (a2.map (cL (cI .u8))))), (3, .d (.sl (a3.map (cL cB)))), (50, .d (.lit (.bool true)))] []) Sub.tt ?_
    cases h
    exact Chain.nil Sub.tt
   ·have c3_ : (r1.2 != 0) = false := Bool.eq_false_iff.2 c3
    refine Chain.sub (Sub.bool 36 (b := (r1.2 != 0)) rfl c3_) ?_
    refine Chain.sub (S' := mk 219 [] [(0, .d (.lit (.int .i64 a0))), (1, .d (.sl (a1.map (cL (cI .i64))))), (2, .d (.sl (a2.map (cL (cI .u8))))), (3, .d (.sl (a3.map (cL cB)))), (9, .d (.lit (.pointer none))), (36, .d (.lit (.bool false)))] []) (by simp; exact Sub.table (by simp) (by simp)) ?_
    refine Chain.runK [] 14 fun K hK => ?_; simp; refine hK _ _ ?_; clear hK K
    refine Chain.sub (S' := mk 219 [] [(0, .d (.lit (.int .i64 a0))), (1, .d (.sl (a1.map (cL (cI .i64))))), (2, .d (.sl (a2.map (cL (cI .u8))))), (3, .d (.sl (a3.map (cL cB)))), (50, .d (.lit (.bool true)))] []) Sub.tt ?_
    cases h
    exact Chain.nil Sub.tt
  ·clear hj
   refine AW.condK fun K1 K2 k1 k2 => ?_; simp; refine k1 ?_; clear k1 k2 K1 K2
   refine AW.seqR ?_
   refine Chain.runK [] 1 fun K hK => ?_; simp; refine hK _ _ ?_; clear hK K
   refine Chain.sub (S' := mk 219 [] [(8, .d (.lit (.bool false)))] []) Sub.tt ?_
   refine Chain.nil ?_
   refine AW.ret ?_
   cases h
   refine thenQ_pass (by simp) ?_
   exact FinC.ret (by simp) (by simp)
 ·simp only [hr1o, List.nil_append] at Fr1
  refine Chain.callF Fr1 [] [] [(1000, 31), (25000, 5620), (25001, 5621)] [(31, (.box [.ref 5620 0 r1o.durable.length, .ref 5621 0 r1o.pending.length])), (5620, (.arr 30 1 (r1o.durable.map (cL (cI .u8))))), (5621, (.arr 66 2 (r1o.pending.map cS66)))] (.tup [.ptr 31 0 0, .d (.lit (.int .i64 r1.2))]) (by simp) rfl (by simp <;> rfl) (by simp) (by simp) (by simp) (by simp) (by simp) ent5 (by simp) (by simp) (by simp) (by simp) (by simp) (by simp) ?_
  refine Chain.sub (S' := mk 219 [] [(0, .d (.lit (.int .i64 a0))), (1, .d (.sl (a1.map (cL (cI .i64))))), (2, .d (.sl (a2.map (cL (cI .u8))))), (3, .d (.sl (a3.map (cL cB)))), (31, .tup [.ptr 31 0 0, .d (.lit (.int .i64 r1.2))])] [(31, some (.box [.ref 5620 0 r1o.durable.length, .ref 5621 0 r1o.pending.length])), (5620, some (.arr 30 1 (r1o.durable.map (cL (cI .u8))))), (5621, some (.arr 66 2 (r1o.pending.map cS66)))]) (by simp; exact Sub.table (by simp) (by simp)) ?_
  refine Chain.runK [] 5 fun K hK => ?_; simp; refine hK _ _ ?_; clear hK K
  refine Chain.sub (S' := mk 219 [] [(0, .d (.lit (.int .i64 a0))), (1, .d (.sl (a1.map (cL (cI .i64))))), (2, .d (.sl (a2.map (cL (cI .u8))))), (3, .d (.sl (a3.map (cL cB)))), (9, .ptr 31 0 0), (10, .d (.lit (.int .i64 r1.2)))] [(31, some (.box [.ref 5620 0 r1o.durable.length, .ref 5621 0 r1o.pending.length])), (5620, some (.arr 30 1 (r1o.durable.map (cL (cI .u8))))), (5621, some (.arr 66 2 (r1o.pending.map cS66)))]) Sub.tt ?_
  refine Chain.nil ?_
  replace h := bsome h; obtain ⟨v8, hj, h⟩ := h
  refine AW.cutR (mk 219 [] [(0, .d (.lit (.int .i64 a0))), (1, .d (.sl (a1.map (cL (cI .i64))))), (2, .d (.sl (a2.map (cL (cI .u8))))), (3, .d (.sl (a3.map (cL cB)))), (50, .d (.lit (.bool v8)))] []) ?_ ?_
  ·clear h; have h := hj; clear hj
   refine Chain.runK [] 3 fun K hK => ?_; simp; refine hK _ _ ?_; clear hK K
   refine Chain.sub (S' := mk 219 [] [(0, .d (.lit (.int .i64 a0))), (1, .d (.sl (a1.map (cL (cI .i64))))), (2, .d (.sl (a2.map (cL (cI .u8))))), (3, .d (.sl (a3.map (cL cB)))), (9, .ptr 31 0 0), (36, .d (.lit (.bool (r1.2 != 0))))] [(31, some (.box [.ref 5620 0 r1o.durable.length, .ref 5621 0 r1o.pending.length])), (5620, some (.arr 30 1 (r1o.durable.map (cL (cI .u8))))), (5621, some (.arr 66 2 (r1o.pending.map cS66)))]) Sub.tt ?_
   replace h := isome h; rcases h with ⟨c9, h⟩ | ⟨c9, h⟩
   ·have c9_ : (r1.2 != 0) = true := c9
    refine Chain.sub (Sub.bool 36 (b := (r1.2 != 0)) rfl c9_) ?_
    refine Chain.sub (S' := mk 219 [] [(0, .d (.lit (.int .i64 a0))), (1, .d (.sl (a1.map (cL (cI .i64))))), (2, .d (.sl (a2.map (cL (cI .u8))))), (3, .d (.sl (a3.map (cL cB)))), (9, .ptr 31 0 0), (36, .d (.lit (.bool true)))] [(31, some (.box [.ref 5620 0 r1o.durable.length, .ref 5621 0 r1o.pending.length])), (5620, some (.arr 30 1 (r1o.durable.map (cL (cI .u8))))), (5621, some (.arr 66 2 (r1o.pending.map cS66)))]) (by simp; exact Sub.table (by simp) (by simp)) ?_
    refine Chain.runK [] 14 fun K hK => ?_; simp; refine hK _ _ ?_; clear hK K
    refine Chain.sub (S' := mk 219 [] [(0, .d (.lit (.int .i64 a0))), (1, .d (.sl (a1.map (cL (cI .i64))))), (2, .d (.sl (a2.map (cL (cI .u8))))), (3, .d (.sl (a3.map (cL cB)))), (50, .d (.lit (.bool true)))] []) Sub.tt ?_
    cases h
    exact Chain.nil Sub.tt
   ·have c9_ : (r1.2 != 0) = false := Bool.eq_false_iff.2 c9
    refine Chain.sub (Sub.bool 36 (b := (r1.2 != 0)) rfl c9_) ?_
    refine Chain.sub (S' := mk 219 [] [(0, .d (.lit (.int .i64 a0))), (1, .d (.sl (a1.map (cL (cI .i64))))), (2, .d (.sl (a2.map (cL (cI .u8))))), (3, .d (.sl (a3.map (cL cB)))), (9, .ptr 31 0 0), (36, .d (.lit (.bool false)))] [(31, some (.box [.ref 5620 0 r1o.durable.length, .ref 5621 0 r1o.pending.length])), (5620, some (.arr 30 1 (r1o.durable.map (cL (cI .u8))))), (5621, some (.arr 66 2 (r1o.pending.map cS66)))]) (by simp; exact Sub.table (by simp) (by simp)) ?_
    refine Chain.runK [] 6 fun K hK => ?_; simp; refine hK _ _ ?_; clear hK K
    refine Chain.sub (S' := mk 219 [] [(0, .d (.lit (.int .i64 a0))), (1, .d (.sl (a1.map (cL (cI .i64))))), (2, .d (.sl (a2.map (cL (cI .u8))))), (3, .d (.sl (a3.map (cL cB)))), (9, .ptr 31 0 0), (40, .d (.lit (.bool false))), (41, .ptr 31 0 0), (42, .ref 42 0 (([7] : List Int).length))] [(31, some (.box [.ref 5620 0 r1o.durable.length, .ref 5621 0 r1o.pending.length])), (42, some (.arr 5 1 (([7] : List Int).map (cI .u8)))), (5620, some (.arr 30 1 (r1o.durable.map (cL (cI .u8))))), (5621, some (.arr 66 2 (r1o.pending.map cS66)))]) Sub.tt ?_
    refine Chain.sub (Sub.freeze 42 rfl) ?_
    refine Chain.sub (S' := mk 219 [] [(0, .d (.lit (.int .i64 a0))), (1, .d (.sl (a1.map (cL (cI .i64))))), (2, .d (.sl (a2.map (cL (cI .u8))))), (3, .d (.sl (a3.map (cL cB)))), (9, .ptr 31 0 0), (40, .d (.lit (.bool false))), (41, .ptr 31 0 0), (42, .d (.sl (([7] : List Int).map (cI .u8))))] [(31, some (.box [.ref 5620 0 r1o.durable.length, .ref 5621 0 r1o.pending.length])), (5620, some (.arr 30 1 (r1o.durable.map (cL (cI .u8))))), (5621, some (.arr 66 2 (r1o.pending.map cS66)))]) (by simp; exact Sub.table (by simp) (by simp)) ?_
    replace h := bsome h; obtain ⟨r10, hr10, h⟩ := h
    refine Chain.callF (p6 N r1o 1 ([7] : List Int) r10 hr10) [(31, 1000), (5620, 25000), (5621, 25001)] [31] [(1000, 31), (25000, 5620), (25001, 5621)] [(31, (.box [.ref 5620 0 r10.1.durable.length, .ref 5621 0 r10.1.pending.length])), (5620, (.arr 30 1 (r10.1.durable.map (cL (cI .u8))))), (5621, (.arr 66 2 (r10.1.pending.map cS66)))] (.d (.lit (.int .i64 r10.2))) (by simp) rfl (by simp <;> rfl) (by simp) (by simp) (by simp) (by simp) (by simp) ent6 (by simp) (by simp) (by simp) (by simp) (by simp) (by simp) ?_
    refine Chain.sub (S' := mk 219 [] [(0, .d (.lit (.int .i64 a0))), (1, .d (.sl (a1.map (cL (cI .i64))))), (2, .d (.sl (a2.map (cL (cI .u8))))), (3, .d (.sl (a3.map (cL cB)))), (9, .ptr 31 0 0), (40, .d (.lit (.bool false))), (41, .ptr 31 0 0), (42, .d (.sl (([7] : List Int).map (cI .u8)))), (43, .d (.lit (.int .i64 r10.2)))] [(31, some (.box [.ref 5620 0 r10.1.durable.length, .ref 5621 0 r10.1.pending.length])), (5620, some (.arr 30 1 (r10.1.durable.map (cL (cI .u8))))), (5621, some (.arr 66 2 (r10.1.pending.map cS66)))]) (by simp; exact Sub.table (by simp) (by simp)) ?_
    refine Chain.runK [] 3 fun K hK => ?_; simp; refine hK _ _ ?_; clear hK K
    refine Chain.sub (S' := mk 219 [] [(0, .d (.lit (.int .i64 a0))), (1, .d (.sl (a1.map (cL (cI .i64))))), (2, .d (.sl (a2.map (cL (cI .u8))))), (3, .d (.sl (a3.map (cL cB)))), (9, .ptr 31 0 0), (46, .d (.lit (.bool (r10.2 != 0))))] [(31, some (.box [.ref 5620 0 r10.1.durable.length, .ref 5621 0 r10.1.pending.length])), (5620, some (.arr 30 1 (r10.1.durable.map (cL (cI .u8))))), (5621, some (.arr 66 2 (r10.1.pending.map cS66)))]) Sub.tt ?_
    replace h := isome h; rcases h with ⟨c11, h⟩ | ⟨c11, h⟩
    ·have c11_ : (r10.2 != 0) = true := c11
     refine Chain.sub (Sub.bool 46 (b := (r10.2 != 0)) rfl c11_) ?_
     refine Chain.sub (S' := mk 219 [] [(0, .d (.lit (.int .i64 a0))), (1, .d (.sl (a1.map (cL (cI .i64))))), (2, .d (.sl (a2.map (cL (cI .u8))))), (3, .d (.sl (a3.map (cL cB)))), (9, .ptr 31 0 0), (46, .d (.lit (.bool true)))] [(31, some (.box [.ref 5620 0 r10.1.durable.length, .ref 5621 0 r10.1.pending.length])), (5620, some (.arr 30 1 (r10.1.durable.map (cL (cI .u8))))), (5621, some (.arr 66 2 (r10.1.pending.map cS66)))]) (by simp; exact Sub.table (by simp) (by simp)) ?_
     refine Chain.runK [] 4 fun K hK => ?_; simp; refine hK _ _ ?_; clear hK K
     refine Chain.sub (S' := mk 219 [] [(0, .d (.lit (.int .i64 a0))), (1, .d (.sl (a1.map (cL (cI .i64))))), (2, .d (.sl (a2.map (cL (cI .u8))))), (3, .d (.sl (a3.map (cL cB)))), (50, .d (.lit (.bool true)))] []) Sub.tt ?_
     cases h
     exact Chain.nil Sub.tt
    ·have c11_ : (r10.2 != 0) = false := Bool.eq_false_iff.2 c11
     refine Chain.sub (Sub.bool 46 (b := (r10.2 != 0)) rfl c11_) ?_
     refine Chain.sub (S' := mk 219 [] [(0, .d (.lit (.int .i64 a0))), (1, .d (.sl (a1.map (cL (cI .i64))))), (2, .d (.sl (a2.map (cL (cI .u8))))), (3, .d (.sl (a3.map (cL cB)))), (9, .ptr 31 0 0), (46, .d (.lit (.bool false)))] [(31, some (.box [.ref 5620 0 r10.1.durable.length, .ref 5621 0 r10.1.pending.length])), (5620, some (.arr 30 1 (r10.1.durable.map (cL (cI .u8))))), (5621, some (.arr 66 2 (r10.1.pending.map cS66)))]) (by simp; exact Sub.table (by simp) (by simp)) ?_
     refine Chain.runK [] 1 fun K hK => ?_; simp; refine hK _ _ ?_; clear hK K
     refine Chain.sub (S' := mk 219 [] [(0, .d (.lit (.int .i64 a0))), (1, .d (.sl (a1.map (cL (cI .i64))))), (2, .d (.sl (a2.map (cL (cI .u8))))), (3, .d (.sl (a3.map (cL cB)))), (46, .d (.lit (.bool false))), (47, .ptr 31 0 0)] [(31, some (.box [.ref 5620 0 r10.1.durable.length, .ref 5621 0 r10.1.pending.length])), (5620, some (.arr 30 1 (r10.1.durable.map (cL (cI .u8))))), (5621, some (.arr 66 2 (r10.1.pending.map cS66)))]) Sub.tt ?_
     replace h := bsome h; obtain ⟨r12, hr12, h⟩ := h
     refine Chain.callF (p7 N r10.1 r12 hr12) [(31, 1000), (5620, 25000), (5621, 25001)] [31] [(1000, 31), (25000, 5620), (25001, 5621)] [(31, (.box [.ref 5620 0 r12.1.durable.length, .ref 5621 0 r12.1.pending.length])), (5620, (.arr 30 1 (r12.1.durable.map (cL (cI .u8))))), (5621, (.arr 66 2 (r12.1.pending.map cS66)))] (.d (.lit (.int .i64 r12.2))) (by simp) rfl (by simp <;> rfl) (by simp) (by simp) (by simp) (by simp) (by simp) ent7 (by simp) (by simp) (by simp) (by simp) (by simp) (by simp) ?_
     refine Chain.sub (S' := mk 219 [] [(0, .d (.lit (.int .i64 a0))), (1, .d (.sl (a1.map (cL (cI .i64))))), (2, .d (.sl (a2.map (cL (cI .u8))))), (3, .d (.sl (a3.map (cL cB)))), (46, .d (.lit (.bool false))), (47, .ptr 31 0 0), (48, .d (.lit (.int .i64 r12.2)))] [(31, some (.box [.ref 5620 0 r12.1.durable.length, .ref 5621 0 r12.1.pending.length])), (5620, some (.arr 30 1 (r12.1.durable.map (cL (cI .u8))))), (5621, some (.arr 66 2 (r12.1.pending.map cS66)))]) (by simp; exact Sub.table (by simp) (by simp)) ?_
     refine Chain.runK [] 2 fun K hK => ?_; simp; refine hK _ _ ?_; clear hK K
     refine Chain.sub (S' := mk 219 [] [(0, .d (.lit (.int .i64 a0))), (1, .d (.sl (a1.map (cL (cI .i64))))), (2, .d (.sl (a2.map (cL (cI .u8))))), (3, .d (.sl (a3.map (cL cB)))), (50, .d (.lit (.bool (r12.2 != 1))))] []) Sub.tt ?_
     cases h
     exact Chain.nil Sub.tt
  ·clear hj
   replace h := isome h; rcases h with ⟨c13, h⟩ | ⟨c13, h⟩
   ·have c13_ : v8 = true := c13
    refine AW.condT (b := v8) rfl c13_ ?_
    refine AW.sub (Sub.bool 50 (b := v8) rfl c13_) ?_
    refine AW.sub (S' := mk 219 [] [(0, .d (.lit (.int .i64 a0))), (1, .d (.sl (a1.map (cL (cI .i64))))), (2, .d (.sl (a2.map (cL (cI .u8))))), (3, .d (.sl (a3.map (cL cB)))), (50, .d (.lit (.bool true)))] []) (by simp; exact Sub.table (by simp) (by simp)) ?_
    refine AW.seqR ?_
    refine Chain.runK [] 1 fun K hK => ?_; simp; refine hK _ _ ?_; clear hK K
    refine Chain.sub (S' := mk 219 [] [(8, .d (.lit (.bool false)))] []) Sub.tt ?_
    refine Chain.nil ?_
    refine AW.ret ?_
    cases h
    refine thenQ_pass (by simp) ?_
    exact FinC.ret (by simp) (by simp)
   ·have c13_ : v8 = false := Bool.eq_false_iff.2 c13
    refine AW.condF (b := v8) rfl c13_ ?_
    refine AW.sub (Sub.bool 50 (b := v8) rfl c13_) ?_
    refine AW.sub (S' := mk 219 [] [(0, .d (.lit (.int .i64 a0))), (1, .d (.sl (a1.map (cL (cI .i64))))), (2, .d (.sl (a2.map (cL (cI .u8))))), (3, .d (.sl (a3.map (cL cB)))), (50, .d (.lit (.bool false)))] []) (by simp; exact Sub.table (by simp) (by simp)) ?_
    refine AW.skip ?_
    refine thenQ_normal ?_
    refine AW.seqR ?_
    refine Chain.runK [] 1 fun K hK => ?_; simp; refine hK _ _ ?_; clear hK K
    refine Chain.sub (S' := mk 219 [] [(0, .d (.lit (.int .i64 a0))), (1, .d (.sl (a1.map (cL (cI .i64))))), (2, .d (.sl (a2.map (cL (cI .u8))))), (3, .d (.sl (a3.map (cL cB)))), (52, .d (.lit (.int .i64 a0)))] []) Sub.tt ?_
    replace h := bsome h; obtain ⟨r14, hr14, h⟩ := h
    have Fr14 := p5 N a0 r14 hr14
    rcases osome h with ⟨hr14o, h⟩ | ⟨r14o, hr14o, h⟩
    ·simp only [hr14o, List.append_nil] at Fr14
     refine Chain.callF Fr14 [] [] [] [] (.tup [.d (.lit (.pointer none)), .d (.lit (.int .i64 r14.2))]) (by simp) rfl (by simp <;> rfl) (by simp) (by simp) (by simp) (by simp) (by simp) ent5 (by simp) (by simp) (by simp) (by simp) (by simp) (by simp) ?_
     refine Chain.sub (S' := mk 219 [] [(0, .d (.lit (.int .i64 a0))), (1, .d (.sl (a1.map (cL (cI .i64))))), (2, .d (.sl (a2.map (cL (cI .u8))))), (3, .d (.sl (a3.map (cL cB)))), (52, .d (.lit (.int .i64 a0))), (53, .tup [.d (.lit (.pointer none)), .d (.lit (.int .i64 r14.2))])] []) (by simp; exact Sub.table (by simp) (by simp)) ?_
     refine Chain.runK [] 5 fun K hK => ?_; simp; refine hK _ _ ?_; clear hK K
     refine Chain.sub (S' := mk 219 [] [(0, .d (.lit (.int .i64 a0))), (1, .d (.sl (a1.map (cL (cI .i64))))), (2, .d (.sl (a2.map (cL (cI .u8))))), (3, .d (.sl (a3.map (cL cB)))), (11, .d (.lit (.pointer none))), (12, .d (.lit (.int .i64 r14.2)))] []) Sub.tt ?_
     refine Chain.nil ?_
     refine AW.seq ?_
     replace h := bsome h; obtain ⟨v16, hj, h⟩ := h
     refine AW.cutR (mk 219 [] [(0, .d (.lit (.int .i64 a0))), (1, .d (.sl (a1.map (cL (cI .i64))))), (2, .d (.sl (a2.map (cL (cI .u8))))), (3, .d (.sl (a3.map (cL cB)))), (11, .d (.lit (.pointer none))), (12, .d (.lit (.int .i64 r14.2))), (61, .d (.lit (.bool v16)))] []) ?_ ?_
     ·clear h; have h := hj; clear hj
      refine Chain.runK [] 3 fun K hK => ?_; simp; refine hK _ _ ?_; clear hK K
      refine Chain.sub (S' := mk 219 [] [(0, .d (.lit (.int .i64 a0))), (1, .d (.sl (a1.map (cL (cI .i64))))), (2, .d (.sl (a2.map (cL (cI .u8))))), (3, .d (.sl (a3.map (cL cB)))), (11, .d (.lit (.pointer none))), (12, .d (.lit (.int .i64 r14.2))), (58, .d (.lit (.bool (decide (a0 < 1)))))] []) Sub.tt ?_
      replace h := isome h; rcases h with ⟨c17, h⟩ | ⟨c17, h⟩
      ·have c17_ : decide (a0 < 1) = true := decide_eq_true c17
       refine Chain.sub (Sub.bool 58 (b := decide (a0 < 1)) rfl c17_) ?_
       refine Chain.sub (S' := mk 219 [] [(0, .d (.lit (.int .i64 a0))), (1, .d (.sl (a1.map (cL (cI .i64))))), (2, .d (.sl (a2.map (cL (cI .u8))))), (3, .d (.sl (a3.map (cL cB)))), (11, .d (.lit (.pointer none))), (12, .d (.lit (.int .i64 r14.2))), (58, .d (.lit (.bool true)))] []) (by simp; exact Sub.table (by simp) (by simp)) ?_
       refine Chain.runK [] 3 fun K hK => ?_; simp; refine hK _ _ ?_; clear hK K
       refine Chain.sub (S' := mk 219 [] [(0, .d (.lit (.int .i64 a0))), (1, .d (.sl (a1.map (cL (cI .i64))))), (2, .d (.sl (a2.map (cL (cI .u8))))), (3, .d (.sl (a3.map (cL cB)))), (11, .d (.lit (.pointer none))), (12, .d (.lit (.int .i64 r14.2))), (61, .d (.lit (.bool true)))] []) Sub.tt ?_
       cases h
       exact Chain.nil Sub.tt
      ·have c17_ : decide (a0 < 1) = false := decide_eq_false c17
       refine Chain.sub (Sub.bool 58 (b := decide (a0 < 1)) rfl c17_) ?_
       refine Chain.sub (S' := mk 219 [] [(0, .d (.lit (.int .i64 a0))), (1, .d (.sl (a1.map (cL (cI .i64))))), (2, .d (.sl (a2.map (cL (cI .u8))))), (3, .d (.sl (a3.map (cL cB)))), (11, .d (.lit (.pointer none))), (12, .d (.lit (.int .i64 r14.2))), (58, .d (.lit (.bool false)))] []) (by simp; exact Sub.table (by simp) (by simp)) ?_
       refine Chain.runK [] 3 fun K hK => ?_; simp; refine hK _ _ ?_; clear hK K
       refine Chain.sub (S' := mk 219 [] [(0, .d (.lit (.int .i64 a0))), (1, .d (.sl (a1.map (cL (cI .i64))))), (2, .d (.sl (a2.map (cL (cI .u8))))), (3, .d (.sl (a3.map (cL cB)))), (11, .d (.lit (.pointer none))), (12, .d (.lit (.int .i64 r14.2))), (61, .d (.lit (.bool (decide (a0 > 256)))))] []) Sub.tt ?_
       cases h
       exact Chain.nil Sub.tt
     ·clear hj
      replace h := isome h; rcases h with ⟨c18, h⟩ | ⟨c18, h⟩
      ·have c18_ : v16 = true := c18
       refine AW.condT (b := v16) rfl c18_ ?_
       refine AW.sub (Sub.bool 61 (b := v16) rfl c18_) ?_
       refine AW.sub (S' := mk 219 [] [(0, .d (.lit (.int .i64 a0))), (1, .d (.sl (a1.map (cL (cI .i64))))), (2, .d (.sl (a2.map (cL (cI .u8))))), (3, .d (.sl (a3.map (cL cB)))), (11, .d (.lit (.pointer none))), (12, .d (.lit (.int .i64 r14.2))), (61, .d (.lit (.bool true)))] []) (by simp; exact Sub.table (by simp) (by simp)) ?_
       replace h := bsome h; obtain ⟨v20, hj, h⟩ := h
       refine AW.cutR (mk 219 [] [(8, .d (.lit (.bool v20)))] []) ?_ ?_
       ·clear h; have h := hj; clear hj
        refine Chain.runK [] 3 fun K hK => ?_; simp; refine hK _ _ ?_; clear hK K
        refine Chain.sub (S' := mk 219 [] [(11, .d (.lit (.pointer none))), (64, .d (.lit (.bool (r14.2 == 1))))] []) Sub.tt ?_
        replace h := isome h; rcases h with ⟨c21, h⟩ | ⟨c21, h⟩
        ·have c21_ : (r14.2 == 1) = true := c21
         refine Chain.sub (Sub.bool 64 (b := (r14.2 == 1)) rfl c21_) ?_
         refine Chain.sub (S' := mk 219 [] [(11, .d (.lit (.pointer none))), (64, .d (.lit (.bool true)))] []) (by simp; exact Sub.table (by simp) (by simp)) ?_
         refine Chain.runK [] 4 fun K hK => ?_; simp; refine hK _ _ ?_; clear hK K
         refine Chain.sub (S' := mk 219 [] [(8, .d (.lit (.bool true)))] []) Sub.tt ?_
         cases h
         exact Chain.nil Sub.tt
        ·have c21_ : (r14.2 == 1) = false := Bool.eq_false_iff.2 c21
         refine Chain.sub (Sub.bool 64 (b := (r14.2 == 1)) rfl c21_) ?_
         refine Chain.sub (S' := mk 219 [] [(11, .d (.lit (.pointer none))), (64, .d (.lit (.bool false)))] []) (by simp; exact Sub.table (by simp) (by simp)) ?_
         refine Chain.runK [] 4 fun K hK => ?_; simp; refine hK _ _ ?_; clear hK K
         refine Chain.sub (S' := mk 219 [] [(8, .d (.lit (.bool false)))] []) Sub.tt ?_
         cases h
         exact Chain.nil Sub.tt
       ·clear hj
        refine AW.ret ?_
        cases h
        refine thenQ_pass (by simp) ?_
        exact FinC.ret (by simp) (by simp)
      ·have c18_ : v16 = false := Bool.eq_false_iff.2 c18
       refine AW.condF (b := v16) rfl c18_ ?_
       refine AW.sub (Sub.bool 61 (b := v16) rfl c18_) ?_
       refine AW.sub (S' := mk 219 [] [(0, .d (.lit (.int .i64 a0))), (1, .d (.sl (a1.map (cL (cI .i64))))), (2, .d (.sl (a2.map (cL (cI .u8))))), (3, .d (.sl (a3.map (cL cB)))), (11, .d (.lit (.pointer none))), (12, .d (.lit (.int .i64 r14.2))), (61, .d (.lit (.bool false)))] []) (by simp; exact Sub.table (by simp) (by simp)) ?_
       refine AW.skip ?_
       refine thenQ_normal ?_
       refine AW.seq ?_
       replace h := bsome h; obtain ⟨⟨⟩, hj, h⟩ := h
       refine AW.cutR (mk 219 [] [(0, .d (.lit (.int .i64 a0))), (1, .d (.sl (a1.map (cL (cI .i64))))), (2, .d (.sl (a2.map (cL (cI .u8))))), (3, .d (.sl (a3.map (cL cB)))), (11, .d (.lit (.pointer none))), (79, .d (.lit (.bool true)))] []) ?_ ?_
       ·clear h; have h := hj; clear hj
        refine Chain.runK [] 3 fun K hK => ?_; simp; refine hK _ _ ?_; clear hK K
        refine Chain.sub (S' := mk 219 [] [(0, .d (.lit (.int .i64 a0))), (1, .d (.sl (a1.map (cL (cI .i64))))), (2, .d (.sl (a2.map (cL (cI .u8))))), (3, .d (.sl (a3.map (cL cB)))), (11, .d (.lit (.pointer none))), (70, .d (.lit (.bool (r14.2 != 0))))] []) Sub.tt ?_
        replace h := isome h; rcases h with ⟨c23, h⟩ | ⟨c23, h⟩
        ·have c23_ : (r14.2 != 0) = true := c23
         refine Chain.sub (Sub.bool 70 (b := (r14.2 != 0)) rfl c23_) ?_
         refine Chain.sub (S' := mk 219 [] [(0, .d (.lit (.int .i64 a0))), (1, .d (.sl (a1.map (cL (cI .i64))))), (2, .d (.sl (a2.map (cL (cI .u8))))), (3, .d (.sl (a3.map (cL cB)))), (11, .d (.lit (.pointer none))), (70, .d (.lit (.bool true)))] []) (by simp; exact Sub.table (by simp) (by simp)) ?_
         refine Chain.runK [] 9 fun K hK => ?_; simp; refine hK _ _ ?_; clear hK K
         refine Chain.sub (S' := mk 219 [] [(0, .d (.lit (.int .i64 a0))), (1, .d (.sl (a1.map (cL (cI .i64))))), (2, .d (.sl (a2.map (cL (cI .u8))))), (3, .d (.sl (a3.map (cL cB)))), (11, .d (.lit (.pointer none))), (79, .d (.lit (.bool true)))] []) Sub.tt ?_
         cases h
         exact Chain.nil Sub.tt
        ·have c23_ : (r14.2 != 0) = false := Bool.eq_false_iff.2 c23
         refine Chain.sub (Sub.bool 70 (b := (r14.2 != 0)) rfl c23_) ?_
         refine Chain.sub (S' := mk 219 [] [(0, .d (.lit (.int .i64 a0))), (1, .d (.sl (a1.map (cL (cI .i64))))), (2, .d (.sl (a2.map (cL (cI .u8))))), (3, .d (.sl (a3.map (cL cB)))), (11, .d (.lit (.pointer none))), (70, .d (.lit (.bool false)))] []) (by simp; exact Sub.table (by simp) (by simp)) ?_
         refine Chain.runK [] 9 fun K hK => ?_; simp; refine hK _ _ ?_; clear hK K
         refine Chain.sub (S' := mk 219 [] [(0, .d (.lit (.int .i64 a0))), (1, .d (.sl (a1.map (cL (cI .i64))))), (2, .d (.sl (a2.map (cL (cI .u8))))), (3, .d (.sl (a3.map (cL cB)))), (11, .d (.lit (.pointer none))), (79, .d (.lit (.bool true)))] []) Sub.tt ?_
         cases h
         exact Chain.nil Sub.tt
       ·clear hj
        refine AW.condK fun K1 K2 k1 k2 => ?_; simp; refine k1 ?_; clear k1 k2 K1 K2
        refine AW.seqR ?_
        refine Chain.runK [] 1 fun K hK => ?_; simp; refine hK _ _ ?_; clear hK K
        refine Chain.sub (S' := mk 219 [] [(8, .d (.lit (.bool false)))] []) Sub.tt ?_
        refine Chain.nil ?_
        refine AW.ret ?_
        cases h
        refine thenQ_pass (by simp) ?_
        exact FinC.ret (by simp) (by simp)
    ·simp only [hr14o, List.nil_append] at Fr14
     refine Chain.callF Fr14 [] [] [(1000, 53), (25000, 6060), (25001, 6061)] [(53, (.box [.ref 6060 0 r14o.durable.length, .ref 6061 0 r14o.pending.length])), (6060, (.arr 30 1 (r14o.durable.map (cL (cI .u8))))), (6061, (.arr 66 2 (r14o.pending.map cS66)))] (.tup [.ptr 53 0 0, .d (.lit (.int .i64 r14.2))]) (by simp) rfl (by simp <;> rfl) (by simp) (by simp) (by simp) (by simp) (by simp) ent5 (by simp) (by simp) (by simp) (by simp) (by simp) (by simp) ?_
     refine Chain.sub (S' := mk 219 [] [(0, .d (.lit (.int .i64 a0))), (1, .d (.sl (a1.map (cL (cI .i64))))), (2, .d (.sl (a2.map (cL (cI .u8))))), (3, .d (.sl (a3.map (cL cB)))), (52, .d (.lit (.int .i64 a0))), (53, .tup [.ptr 53 0 0, .d (.lit (.int .i64 r14.2))])] [(53, some (.box [.ref 6060 0 r14o.durable.length, .ref 6061 0 r14o.pending.length])), (6060, some (.arr 30 1 (r14o.durable.map (cL (cI .u8))))), (6061, some (.arr 66 2 (r14o.pending.map cS66)))]) (by simp; exact Sub.table (by simp) (by simp)) ?_
     refine Chain.runK [] 5 fun K hK => ?_; simp; refine hK _ _ ?_; clear hK K
     refine Chain.sub (S' := mk 219 [] [(0, .d (.lit (.int .i64 a0))), (1, .d (.sl (a1.map (cL (cI .i64))))), (2, .d (.sl (a2.map (cL (cI .u8))))), (3, .d (.sl (a3.map (cL cB)))), (11, .ptr 53 0 0), (12, .d (.lit (.int .i64 r14.2)))] [(53, some (.box [.ref 6060 0 r14o.durable.length, .ref 6061 0 r14o.pending.length])), (6060, some (.arr 30 1 (r14o.durable.map (cL (cI .u8))))), (6061, some (.arr 66 2 (r14o.pending.map cS66)))]) Sub.tt ?_
     refine Chain.nil ?_
     refine AW.seq ?_
     replace h := bsome h; obtain ⟨v25, hj, h⟩ := h
     refine AW.cutR (mk 219 [] [(0, .d (.lit (.int .i64 a0))), (1, .d (.sl (a1.map (cL (cI .i64))))), (2, .d (.sl (a2.map (cL (cI .u8))))), (3, .d (.sl (a3.map (cL cB)))), (11, .ptr 53 0 0), (12, .d (.lit (.int .i64 r14.2))), (61, .d (.lit (.bool v25)))] [(53, some (.box [.ref 6060 0 r14o.durable.length, .ref 6061 0 r14o.pending.length])), (6060, some (.arr 30 1 (r14o.durable.map (cL (cI .u8))))), (6061, some (.arr 66 2 (r14o.pending.map cS66)))]) ?_ ?_
     ·clear h; have h := hj; clear hj
      refine Chain.runK [] 3 fun K hK => ?_; simp; refine hK _ _ ?_; clear hK K
      refine Chain.sub (S' := mk 219 [] [(0, .d (.lit (.int .i64 a0))), (1, .d (.sl (a1.map (cL (cI .i64))))), (2, .d (.sl (a2.map (cL (cI .u8))))), (3, .d (.sl (a3.map (cL cB)))), (11, .ptr 53 0 0), (12, .d (.lit (.int .i64 r14.2))), (58, .d (.lit (.bool (decide (a0 < 1)))))] [(53, some (.box [.ref 6060 0 r14o.durable.length, .ref 6061 0 r14o.pending.length])), (6060, some (.arr 30 1 (r14o.durable.map (cL (cI .u8))))), (6061, some (.arr 66 2 (r14o.pending.map cS66)))]) Sub.tt ?_
      replace h := isome h; rcases h with ⟨c26, h⟩ | ⟨c26, h⟩
      ·have c26_ : decide (a0 < 1) = true := decide_eq_true c26
       refine Chain.sub (Sub.bool 58 (b := decide (a0 < 1)) rfl c26_) ?_
       refine Chain.sub (S' := mk 219 [] [(0, .d (.lit (.int .i64 a0))), (1, .d (.sl (a1.map (cL (cI .i64))))), (2, .d (.sl (a2.map (cL (cI .u8))))), (3, .d (.sl (a3.map (cL cB)))), (11, .ptr 53 0 0), (12, .d (.lit (.int .i64 r14.2))), (58, .d (.lit (.bool true)))] [(53, some (.box [.ref 6060 0 r14o.durable.length, .ref 6061 0 r14o.pending.length])), (6060, some (.arr 30 1 (r14o.durable.map (cL (cI .u8))))), (6061, some (.arr 66 2 (r14o.pending.map cS66)))]) (by simp; exact Sub.table (by simp) (by simp)) ?_
       refine Chain.runK [] 3 fun K hK => ?_; simp; refine hK _ _ ?_; clear hK K
       refine Chain.sub (S' := mk 219 [] [(0, .d (.lit (.int .i64 a0))), (1, .d (.sl (a1.map (cL (cI .i64))))), (2, .d (.sl (a2.map (cL (cI .u8))))), (3, .d (.sl (a3.map (cL cB)))), (11, .ptr 53 0 0), (12, .d (.lit (.int .i64 r14.2))), (61, .d (.lit (.bool true)))] [(53, some (.box [.ref 6060 0 r14o.durable.length, .ref 6061 0 r14o.pending.length])), (6060, some (.arr 30 1 (r14o.durable.map (cL (cI .u8))))), (6061, some (.arr 66 2 (r14o.pending.map cS66)))]) Sub.tt ?_
       cases h
       exact Chain.nil Sub.tt
      ·have c26_ : decide (a0 < 1) = false := decide_eq_false c26
       refine Chain.sub (Sub.bool 58 (b := decide (a0 < 1)) rfl c26_) ?_
       refine Chain.sub (S' := mk 219 [] [(0, .d (.lit (.int .i64 a0))), (1, .d (.sl (a1.map (cL (cI .i64))))), (2, .d (.sl (a2.map (cL (cI .u8))))), (3, .d (.sl (a3.map (cL cB)))), (11, .ptr 53 0 0), (12, .d (.lit (.int .i64 r14.2))), (58, .d (.lit (.bool false)))] [(53, some (.box [.ref 6060 0 r14o.durable.length, .ref 6061 0 r14o.pending.length])), (6060, some (.arr 30 1 (r14o.durable.map (cL (cI .u8))))), (6061, some (.arr 66 2 (r14o.pending.map cS66)))]) (by simp; exact Sub.table (by simp) (by simp)) ?_
       refine Chain.runK [] 3 fun K hK => ?_; simp; refine hK _ _ ?_; clear hK K
       refine Chain.sub (S' := mk 219 [] [(0, .d (.lit (.int .i64 a0))), (1, .d (.sl (a1.map (cL (cI .i64))))), (2, .d (.sl (a2.map (cL (cI .u8))))), (3, .d (.sl (a3.map (cL cB)))), (11, .ptr 53 0 0), (12, .d (.lit (.int .i64 r14.2))), (61, .d (.lit (.bool (decide (a0 > 256)))))] [(53, some (.box [.ref 6060 0 r14o.durable.length, .ref 6061 0 r14o.pending.length])), (6060, some (.arr 30 1 (r14o.durable.map (cL (cI .u8))))), (6061, some (.arr 66 2 (r14o.pending.map cS66)))]) Sub.tt ?_
       cases h
       exact Chain.nil Sub.tt
     ·clear hj
      replace h := isome h; rcases h with ⟨c27, h⟩ | ⟨c27, h⟩
      ·have c27_ : v25 = true := c27
       refine AW.condT (b := v25) rfl c27_ ?_
       refine AW.sub (Sub.bool 61 (b := v25) rfl c27_) ?_
       refine AW.sub (S' := mk 219 [] [(0, .d (.lit (.int .i64 a0))), (1, .d (.sl (a1.map (cL (cI .i64))))), (2, .d (.sl (a2.map (cL (cI .u8))))), (3, .d (.sl (a3.map (cL cB)))), (11, .ptr 53 0 0), (12, .d (.lit (.int .i64 r14.2))), (61, .d (.lit (.bool true)))] [(53, some (.box [.ref 6060 0 r14o.durable.length, .ref 6061 0 r14o.pending.length])), (6060, some (.arr 30 1 (r14o.durable.map (cL (cI .u8))))), (6061, some (.arr 66 2 (r14o.pending.map cS66)))]) (by simp; exact Sub.table (by simp) (by simp)) ?_
       replace h := bsome h; obtain ⟨⟨⟩, hj, h⟩ := h
       refine AW.cutR (mk 219 [] [(8, .d (.lit (.bool false)))] []) ?_ ?_
       ·clear h; have h := hj; clear hj
        refine Chain.runK [] 3 fun K hK => ?_; simp; refine hK _ _ ?_; clear hK K
        refine Chain.sub (S' := mk 219 [] [(11, .ptr 53 0 0), (64, .d (.lit (.bool (r14.2 == 1))))] [(53, some (.box [.ref 6060 0 r14o.durable.length, .ref 6061 0 r14o.pending.length])), (6060, some (.arr 30 1 (r14o.durable.map (cL (cI .u8))))), (6061, some (.arr 66 2 (r14o.pending.map cS66)))]) Sub.tt ?_
        replace h := isome h; rcases h with ⟨c29, h⟩ | ⟨c29, h⟩
        ·have c29_ : (r14.2 == 1) = true := c29
         refine Chain.sub (Sub.bool 64 (b := (r14.2 == 1)) rfl c29_) ?_
         refine Chain.sub (S' := mk 219 [] [(11, .ptr 53 0 0), (64, .d (.lit (.bool true)))] [(53, some (.box [.ref 6060 0 r14o.durable.length, .ref 6061 0 r14o.pending.length])), (6060, some (.arr 30 1 (r14o.durable.map (cL (cI .u8))))), (6061, some (.arr 66 2 (r14o.pending.map cS66)))]) (by simp; exact Sub.table (by simp) (by simp)) ?_
         refine Chain.runK [] 4 fun K hK => ?_; simp; refine hK _ _ ?_; clear hK K
         refine Chain.sub (S' := mk 219 [] [(8, .d (.lit (.bool false)))] []) Sub.tt ?_
         cases h
         exact Chain.nil Sub.tt
        ·have c29_ : (r14.2 == 1) = false := Bool.eq_false_iff.2 c29
         refine Chain.sub (Sub.bool 64 (b := (r14.2 == 1)) rfl c29_) ?_
         refine Chain.sub (S' := mk 219 [] [(11, .ptr 53 0 0), (64, .d (.lit (.bool false)))] [(53, some (.box [.ref 6060 0 r14o.durable.length, .ref 6061 0 r14o.pending.length])), (6060, some (.arr 30 1 (r14o.durable.map (cL (cI .u8))))), (6061, some (.arr 66 2 (r14o.pending.map cS66)))]) (by simp; exact Sub.table (by simp) (by simp)) ?_
         refine Chain.runK [] 4 fun K hK => ?_; simp; refine hK _ _ ?_; clear hK K
         refine Chain.sub (S' := mk 219 [] [(8, .d (.lit (.bool false)))] []) Sub.tt ?_
         cases h
         exact Chain.nil Sub.tt
       ·clear hj
        refine AW.ret ?_
        cases h
        refine thenQ_pass (by simp) ?_
        exact FinC.ret (by simp) (by simp)
      ·have c27_ : v25 = false := Bool.eq_false_iff.2 c27
       refine AW.condF (b := v25) rfl c27_ ?_
       refine AW.sub (Sub.bool 61 (b := v25) rfl c27_) ?_
       refine AW.sub (S' := mk 219 [] [(0, .d (.lit (.int .i64 a0))), (1, .d (.sl (a1.map (cL (cI .i64))))), (2, .d (.sl (a2.map (cL (cI .u8))))), (3, .d (.sl (a3.map (cL cB)))), (11, .ptr 53 0 0), (12, .d (.lit (.int .i64 r14.2))), (61, .d (.lit (.bool false)))] [(53, some (.box [.ref 6060 0 r14o.durable.length, .ref 6061 0 r14o.pending.length])), (6060, some (.arr 30 1 (r14o.durable.map (cL (cI .u8))))), (6061, some (.arr 66 2 (r14o.pending.map cS66)))]) (by simp; exact Sub.table (by simp) (by simp)) ?_
       refine AW.skip ?_
       refine thenQ_normal ?_
       refine AW.seq ?_
       replace h := bsome h; obtain ⟨⟨l32, l33, v34⟩, hj, h⟩ := h
       dsimp only at h
       refine AW.cutR (mk 219 [] [(0, .d (.lit (.int .i64 a0))), (1, .d (.sl (a1.map (cL (cI .i64))))), (2, .d (.sl (a2.map (cL (cI .u8))))), (3, .d (.sl (a3.map (cL cB)))), (11, .ptr 53 0 0), (79, .d (.lit (.bool v34)))] [(53, some (.box [.ref 6060 0 l32.length, .ref 6061 0 l33.length])), (6060, some (.arr 30 1 (l32.map (cL (cI .u8))))), (6061, some (.arr 66 2 (l33.map cS66)))]) ?_ ?_
       ·clear h; have h := hj; clear hj
        refine Chain.runK [] 3 fun K hK => ?_; simp; refine hK _ _ ?_; clear hK K
        refine Chain.sub (S' := mk 219 [] [(0, .d (.lit (.int .i64 a0))), (1, .d (.sl (a1.map (cL (cI .i64))))), (2, .d (.sl (a2.map (cL (cI .u8))))), (3, .d (.sl (a3.map (cL cB)))), (11, .ptr 53 0 0), (70, .d (.lit (.bool (r14.2 != 0))))] [(53, some (.box [.ref 6060 0 r14o.durable.length, .ref 6061 0 r14o.pending.length])), (6060, some (.arr 30 1 (r14o.durable.map (cL (cI .u8))))), (6061, some (.arr 66 2 (r14o.pending.map cS66)))]) Sub.tt ?_
        replace h := isome h; rcases h with ⟨c35, h⟩ | ⟨c35, h⟩
        ·have c35_ : (r14.2 != 0) = true := c35
         refine Chain.sub (Sub.bool 70 (b := (r14.2 != 0)) rfl c35_) ?_
         refine Chain.sub (S' := mk 219 [] [(0, .d (.lit (.int .i64 a0))), (1, .d (.sl (a1.map (cL (cI .i64))))), (2, .d (.sl (a2.map (cL (cI .u8))))), (3, .d (.sl (a3.map (cL cB)))), (11, .ptr 53 0 0), (70, .d (.lit (.bool true)))] [(53, some (.box [.ref 6060 0 r14o.durable.length, .ref 6061 0 r14o.pending.length])), (6060, some (.arr 30 1 (r14o.durable.map (cL (cI .u8))))), (6061, some (.arr 66 2 (r14o.pending.map cS66)))]) (by simp; exact Sub.table (by simp) (by simp)) ?_
         refine Chain.runK [] 9 fun K hK => ?_; simp; refine hK _ _ ?_; clear hK K
         refine Chain.sub (S' := mk 219 [] [(0, .d (.lit (.int .i64 a0))), (1, .d (.sl (a1.map (cL (cI .i64))))), (2, .d (.sl (a2.map (cL (cI .u8))))), (3, .d (.sl (a3.map (cL cB)))), (11, .ptr 53 0 0), (79, .d (.lit (.bool true)))] [(53, some (.box [.ref 6060 0 r14o.durable.length, .ref 6061 0 r14o.pending.length])), (6060, some (.arr 30 1 (r14o.durable.map (cL (cI .u8))))), (6061, some (.arr 66 2 (r14o.pending.map cS66)))]) Sub.tt ?_
         cases h
         exact Chain.nil Sub.tt
        ·have c35_ : (r14.2 != 0) = false := Bool.eq_false_iff.2 c35
         refine Chain.sub (Sub.bool 70 (b := (r14.2 != 0)) rfl c35_) ?_
         refine Chain.sub (S' := mk 219 [] [(0, .d (.lit (.int .i64 a0))), (1, .d (.sl (a1.map (cL (cI .i64))))), (2, .d (.sl (a2.map (cL (cI .u8))))), (3, .d (.sl (a3.map (cL cB)))), (11, .ptr 53 0 0), (70, .d (.lit (.bool false)))] [(53, some (.box [.ref 6060 0 r14o.durable.length, .ref 6061 0 r14o.pending.length])), (6060, some (.arr 30 1 (r14o.durable.map (cL (cI .u8))))), (6061, some (.arr 66 2 (r14o.pending.map cS66)))]) (by simp; exact Sub.table (by simp) (by simp)) ?_
         refine Chain.runK [] 5 fun K hK => ?_; simp; refine hK _ _ ?_; clear hK K
         refine Chain.sub (S' := mk 219 [] [(0, .d (.lit (.int .i64 a0))), (1, .d (.sl (a1.map (cL (cI .i64))))), (2, .d (.sl (a2.map (cL (cI .u8))))), (3, .d (.sl (a3.map (cL cB)))), (11, .ptr 53 0 0), (74, .d (.lit (.bool false))), (75, .ptr 53 0 0)] [(53, some (.box [.ref 6060 0 r14o.durable.length, .ref 6061 0 r14o.pending.length])), (6060, some (.arr 30 1 (r14o.durable.map (cL (cI .u8))))), (6061, some (.arr 66 2 (r14o.pending.map cS66)))]) Sub.tt ?_
         replace h := bsome h; obtain ⟨r36, hr36, h⟩ := h
         refine Chain.callF (p8 N r14o r36 hr36) [(53, 1000), (6060, 25000), (6061, 25001)] [53] [(1000, 53), (25000, 6060), (25001, 6061)] [(53, (.box [.ref 6060 0 r36.1.durable.length, .ref 6061 0 r36.1.pending.length])), (6060, (.arr 30 1 (r36.1.durable.map (cL (cI .u8))))), (6061, (.arr 66 2 (r36.1.pending.map cS66)))] (.d (.lit (.int .i64 r36.2))) (by simp) rfl (by simp <;> rfl) (by simp) (by simp) (by simp) (by simp) (by simp) ent8 (by simp) (by simp) (by simp) (by simp) (by simp) (by simp) ?_
         refine Chain.sub (S' := mk 219 [] [(0, .d (.lit (.int .i64 a0))), (1, .d (.sl (a1.map (cL (cI .i64))))), (2, .d (.sl (a2.map (cL (cI .u8))))), (3, .d (.sl (a3.map (cL cB)))), (11, .ptr 53 0 0), (74, .d (.lit (.bool false))), (75, .ptr 53 0 0), (76, .d (.lit (.int .i64 r36.2)))] [(53, some (.box [.ref 6060 0 r36.1.durable.length, .ref 6061 0 r36.1.pending.length])), (6060, some (.arr 30 1 (r36.1.durable.map (cL (cI .u8))))), (6061, some (.arr 66 2 (r36.1.pending.map cS66)))]) (by simp; exact Sub.table (by simp) (by simp)) ?_
         refine Chain.runK [] 3 fun K hK => ?_; simp; refine hK _ _ ?_; clear hK K
         refine Chain.sub (S' := mk 219 [] [(0, .d (.lit (.int .i64 a0))), (1, .d (.sl (a1.map (cL (cI .i64))))), (2, .d (.sl (a2.map (cL (cI .u8))))), (3, .d (.sl (a3.map (cL cB)))), (11, .ptr 53 0 0), (79, .d (.lit (.bool (r36.2 != a0))))] [(53, some (.box [.ref 6060 0 r36.1.durable.length, .ref 6061 0 r36.1.pending.length])), (6060, some (.arr 30 1 (r36.1.durable.map (cL (cI .u8))))), (6061, some (.arr 66 2 (r36.1.pending.map cS66)))]) Sub.tt ?_
         cases h
         exact Chain.nil Sub.tt
       ·clear hj
        replace h := isome h; rcases h with ⟨c37, h⟩ | ⟨c37, h⟩
        ·have c37_ : v34 = true := c37
         refine AW.condT (b := v34) rfl c37_ ?_
         refine AW.sub (Sub.bool 79 (b := v34) rfl c37_) ?_
         refine AW.sub (S' := mk 219 [] [(0, .d (.lit (.int .i64 a0))), (1, .d (.sl (a1.map (cL (cI .i64))))), (2, .d (.sl (a2.map (cL (cI .u8))))), (3, .d (.sl (a3.map (cL cB)))), (11, .ptr 53 0 0), (79, .d (.lit (.bool true)))] [(53, some (.box [.ref 6060 0 l32.length, .ref 6061 0 l33.length])), (6060, some (.arr 30 1 (l32.map (cL (cI .u8))))), (6061, some (.arr 66 2 (l33.map cS66)))]) (by simp; exact Sub.table (by simp) (by simp)) ?_
         refine AW.seqR ?_
         refine Chain.runK [] 1 fun K hK => ?_; simp; refine hK _ _ ?_; clear hK K
         refine Chain.sub (S' := mk 219 [] [(8, .d (.lit (.bool false)))] []) Sub.tt ?_
         refine Chain.nil ?_
         refine AW.ret ?_
         cases h
         refine thenQ_pass (by simp) ?_
         exact FinC.ret (by simp) (by simp)
        ·have c37_ : v34 = false := Bool.eq_false_iff.2 c37
         refine AW.condF (b := v34) rfl c37_ ?_
         refine AW.sub (Sub.bool 79 (b := v34) rfl c37_) ?_
         refine AW.sub (S' := mk 219 [] [(0, .d (.lit (.int .i64 a0))), (1, .d (.sl (a1.map (cL (cI .i64))))), (2, .d (.sl (a2.map (cL (cI .u8))))), (3, .d (.sl (a3.map (cL cB)))), (11, .ptr 53 0 0), (79, .d (.lit (.bool false)))] [(53, some (.box [.ref 6060 0 l32.length, .ref 6061 0 l33.length])), (6060, some (.arr 30 1 (l32.map (cL (cI .u8))))), (6061, some (.arr 66 2 (l33.map cS66)))]) (by simp; exact Sub.table (by simp) (by simp)) ?_
         refine AW.skip ?_
         refine thenQ_normal ?_
         refine AW.seqR ?_
         refine Chain.mmake (.int .i64) (by simp) rfl rfl (by simp) ?_
         refine Chain.sub (S' := mk 219 [] [(0, .d (.lit (.int .i64 a0))), (1, .d (.sl (a1.map (cL (cI .i64))))), (2, .d (.sl (a2.map (cL (cI .u8))))), (3, .d (.sl (a3.map (cL cB)))), (11, .ptr 53 0 0), (79, .d (.lit (.bool false))), (80, .mref 80)] [(53, some (.box [.ref 6060 0 l32.length, .ref 6061 0 l33.length])), (80, some (.mp (.int .i64) (encM MKey.ik (vO (cI .u8)) ([] : List (Int × (List Int)))))), (6060, some (.arr 30 1 (l32.map (cL (cI .u8))))), (6061, some (.arr 66 2 (l33.map cS66)))]) (by simp; exact Sub.table (by simp) (by simp [encM_nil])) ?_
         refine Chain.runK [] 1 fun K hK => ?_; simp; refine hK _ _ ?_; clear hK K
         refine Chain.sub (S' := mk 219 [] [(0, .d (.lit (.int .i64 a0))), (1, .d (.sl (a1.map (cL (cI .i64))))), (2, .d (.sl (a2.map (cL (cI .u8))))), (3, .d (.sl (a3.map (cL cB)))), (11, .ptr 53 0 0), (13, .mref 80)] [(53, some (.box [.ref 6060 0 l32.length, .ref 6061 0 l33.length])), (80, some (.mp (.int .i64) (encM MKey.ik (vO (cI .u8)) ([] : List (Int × (List Int)))))), (6060, some (.arr 30 1 (l32.map (cL (cI .u8))))), (6061, some (.arr 66 2 (l33.map cS66)))]) Sub.tt ?_
         refine Chain.nil ?_
         refine AW.seqR ?_
         refine Chain.runK [] 1 fun K hK => ?_; simp; refine hK _ _ ?_; clear hK K
         refine Chain.sub (S' := mk 219 [] [(0, .d (.lit (.int .i64 a0))), (1, .d (.sl (a1.map (cL (cI .i64))))), (2, .d (.sl (a2.map (cL (cI .u8))))), (3, .d (.sl (a3.map (cL cB)))), (11, .ptr 53 0 0), (13, .mref 80), (14, .d (.lit (.slice none 0 0)))] [(53, some (.box [.ref 6060 0 l32.length, .ref 6061 0 l33.length])), (80, some (.mp (.int .i64) (encM MKey.ik (vO (cI .u8)) ([] : List (Int × (List Int)))))), (6060, some (.arr 30 1 (l32.map (cL (cI .u8))))), (6061, some (.arr 66 2 (l33.map cS66)))]) Sub.tt ?_
         refine Chain.nil ?_
         refine AW.seq ?_
         refine AW.seqR ?_
         refine Chain.runK [] 3 fun K hK => ?_; simp; refine hK _ _ ?_; clear hK K
         refine Chain.sub (S' := mk 219 [] [(0, .d (.lit (.int .i64 a0))), (2, .d (.sl (a2.map (cL (cI .u8))))), (3, .d (.sl (a3.map (cL cB)))), (11, .ptr 53 0 0), (13, .mref 80), (14, .d (.lit (.slice none 0 0))), (81, .d (.sl (a1.map (cL (cI .i64))))), (82, .d (.lit (.int .i64 (a1.length : Int)))), (83, .d (.lit (.int .i64 0)))] [(53, some (.box [.ref 6060 0 l32.length, .ref 6061 0 l33.length])), (80, some (.mp (.int .i64) (encM MKey.ik (vO (cI .u8)) ([] : List (Int × (List Int)))))), (6060, some (.arr 30 1 (l32.map (cL (cI .u8))))), (6061, some (.arr 66 2 (l33.map cS66)))]) Sub.tt ?_
         refine Chain.nil ?_
         refine AW.lastJ (fun (_ : Unit) => mk 219 [] [] []) h ?_ ?_ <;> clear h
         ·intro o h
          refine AW.block ?_
          refine AW.iter (fun ((l290, l291, m292, l293, v294) : ((List (List Int)) × (List S66) × (List (Int × (List Int))) × (List S66) × Int)) => mk 219 [] [(0, .d (.lit (.int .i64 a0))), (2, .d (.sl (a2.map (cL (cI .u8))))), (3, .d (.sl (a3.map (cL cB)))), (11, .ptr 53 0 0), (13, .mref 80), (14, .ref 109 0 l293.length), (81, .d (.sl (a1.map (cL (cI .i64))))), (82, .d (.lit (.int .i64 (a1.length : Int)))), (83, .d (.lit (.int .i64 v294)))] [(53, some (.box [.ref 6060 0 l290.length, .ref 6061 0 l291.length])), (80, some (.mp (.int .i64) (encM MKey.ik (vO (cI .u8)) m292))), (109, some (.arr 38 2 (l293.map cS66))), (6060, some (.arr 30 1 (l290.map (cL (cI .u8))))), (6061, some (.arr 66 2 (l291.map cS66)))]) h (Sub.trans (Sub.nilOwn (t := 14) (id := 109) (T := 38) (n := 2) rfl rfl (by decide)) (by simp; exact Sub.table (by simp) (by simp))) ?_
          clear h
          rintro ⟨l290, l291, m292, l293, v294⟩ x h
          dsimp only at h ⊢
          refine AW.seqR ?_
          refine Chain.runK [] 1 fun K hK => ?_; simp; refine hK _ _ ?_; clear hK K
          refine Chain.sub (S' := mk 219 [] [(0, .d (.lit (.int .i64 a0))), (2, .d (.sl (a2.map (cL (cI .u8))))), (3, .d (.sl (a3.map (cL cB)))), (11, .ptr 53 0 0), (13, .mref 80), (14, .ref 109 0 l293.length), (81, .d (.sl (a1.map (cL (cI .i64))))), (82, .d (.lit (.int .i64 (a1.length : Int)))), (83, .d (.lit (.int .i64 v294))), (84, .d (.lit (.bool (decide (v294 < (a1.length : Int))))))] [(53, some (.box [.ref 6060 0 l290.length, .ref 6061 0 l291.length])), (80, some (.mp (.int .i64) (encM MKey.ik (vO (cI .u8)) m292))), (109, some (.arr 38 2 (l293.map cS66))), (6060, some (.arr 30 1 (l290.map (cL (cI .u8))))), (6061, some (.arr 66 2 (l291.map cS66)))]) Sub.tt ?_
          refine Chain.nil ?_
          refine AW.seq ?_
          replace h := isome h; rcases h with ⟨c806, h⟩ | ⟨c806, h⟩
          ·have c806_ : decide (v294 < (a1.length : Int)) = true := decide_eq_true c806
           refine AW.condT (b := decide (v294 < (a1.length : Int))) rfl c806_ ?_
           refine AW.sub (Sub.bool 84 (b := decide (v294 < (a1.length : Int))) rfl c806_) ?_
           refine AW.sub (S' := mk 219 [] [(0, .d (.lit (.int .i64 a0))), (2, .d (.sl (a2.map (cL (cI .u8))))), (3, .d (.sl (a3.map (cL cB)))), (11, .ptr 53 0 0), (13, .mref 80), (14, .ref 109 0 l293.length), (81, .d (.sl (a1.map (cL (cI .i64))))), (82, .d (.lit (.int .i64 (a1.length : Int)))), (83, .d (.lit (.int .i64 v294))), (84, .d (.lit (.bool true)))] [(53, some (.box [.ref 6060 0 l290.length, .ref 6061 0 l291.length])), (80, some (.mp (.int .i64) (encM MKey.ik (vO (cI .u8)) m292))), (109, some (.arr 38 2 (l293.map cS66))), (6060, some (.arr 30 1 (l290.map (cL (cI .u8))))), (6061, some (.arr 66 2 (l291.map cS66)))]) (by simp; exact Sub.table (by simp) (by simp)) ?_
           refine AW.skip ?_
           refine thenQ_normal ?_
           refine AW.seq ?_
           refine AW.block ?_
           refine AW.seqR ?_
           replace h := bsome h; obtain ⟨x807, hx807, h⟩ := h
           obtain ⟨k808, hx807k, hx807, hx807a, hx807b⟩ := idx_some hx807
           refine Chain.runK [] 3 fun K hK => ?_; simp [hx807, hx807k, hx807a]; refine hK _ _ ?_; clear hK K
           refine Chain.sub (S' := mk 219 [] [(0, .d (.lit (.int .i64 a0))), (2, .d (.sl (a2.map (cL (cI .u8))))), (3, .d (.sl (a3.map (cL cB)))), (11, .ptr 53 0 0), (13, .mref 80), (14, .ref 109 0 l293.length), (16, .d (.sl (x807.map (cI .i64)))), (81, .d (.sl (a1.map (cL (cI .i64))))), (82, .d (.lit (.int .i64 (a1.length : Int)))), (83, .d (.lit (.int .i64 v294)))] [(53, some (.box [.ref 6060 0 l290.length, .ref 6061 0 l291.length])), (80, some (.mp (.int .i64) (encM MKey.ik (vO (cI .u8)) m292))), (109, some (.arr 38 2 (l293.map cS66))), (6060, some (.arr 30 1 (l290.map (cL (cI .u8))))), (6061, some (.arr 66 2 (l291.map cS66)))]) Sub.tt ?_
           refine Chain.nil ?_
           refine AW.seqR ?_
           refine Chain.runK [] 1 fun K hK => ?_; simp; refine hK _ _ ?_; clear hK K
           refine Chain.sub (S' := mk 219 [] [(0, .d (.lit (.int .i64 a0))), (2, .d (.sl (a2.map (cL (cI .u8))))), (3, .d (.sl (a3.map (cL cB)))), (11, .ptr 53 0 0), (13, .mref 80), (14, .ref 109 0 l293.length), (16, .d (.sl (x807.map (cI .i64)))), (81, .d (.sl (a1.map (cL (cI .i64))))), (82, .d (.lit (.int .i64 (a1.length : Int)))), (83, .d (.lit (.int .i64 v294))), (87, .d (.sl (x807.map (cI .i64))))] [(53, some (.box [.ref 6060 0 l290.length, .ref 6061 0 l291.length])), (80, some (.mp (.int .i64) (encM MKey.ik (vO (cI .u8)) m292))), (109, some (.arr 38 2 (l293.map cS66))), (6060, some (.arr 30 1 (l290.map (cL (cI .u8))))), (6061, some (.arr 66 2 (l291.map cS66)))]) Sub.tt ?_
           replace h := bsome h; obtain ⟨r809, hr809, h⟩ := h
           refine Chain.callL (d := 88) (p9 N x807 1 r809 hr809) (by simp) rfl rfl (by simp <;> rfl) (by simp <;> rfl) ent9 (by simp <;> rfl) ?_
           refine Chain.sub (S' := mk 219 [] [(0, .d (.lit (.int .i64 a0))), (2, .d (.sl (a2.map (cL (cI .u8))))), (3, .d (.sl (a3.map (cL cB)))), (11, .ptr 53 0 0), (13, .mref 80), (14, .ref 109 0 l293.length), (16, .d (.sl (x807.map (cI .i64)))), (81, .d (.sl (a1.map (cL (cI .i64))))), (82, .d (.lit (.int .i64 (a1.length : Int)))), (83, .d (.lit (.int .i64 v294))), (87, .d (.sl (x807.map (cI .i64)))), (88, .d (.lit (.int .i64 r809)))] [(53, some (.box [.ref 6060 0 l290.length, .ref 6061 0 l291.length])), (80, some (.mp (.int .i64) (encM MKey.ik (vO (cI .u8)) m292))), (109, some (.arr 38 2 (l293.map cS66))), (6060, some (.arr 30 1 (l290.map (cL (cI .u8))))), (6061, some (.arr 66 2 (l291.map cS66)))]) (by simp; exact Sub.table (by simp) (by simp)) ?_
           refine Chain.runK [] 1 fun K hK => ?_; simp; refine hK _ _ ?_; clear hK K
           refine Chain.sub (S' := mk 219 [] [(0, .d (.lit (.int .i64 a0))), (2, .d (.sl (a2.map (cL (cI .u8))))), (3, .d (.sl (a3.map (cL cB)))), (11, .ptr 53 0 0), (13, .mref 80), (14, .ref 109 0 l293.length), (16, .d (.sl (x807.map (cI .i64)))), (17, .d (.lit (.int .i64 r809))), (81, .d (.sl (a1.map (cL (cI .i64))))), (82, .d (.lit (.int .i64 (a1.length : Int)))), (83, .d (.lit (.int .i64 v294)))] [(53, some (.box [.ref 6060 0 l290.length, .ref 6061 0 l291.length])), (80, some (.mp (.int .i64) (encM MKey.ik (vO (cI .u8)) m292))), (109, some (.arr 38 2 (l293.map cS66))), (6060, some (.arr 30 1 (l290.map (cL (cI .u8))))), (6061, some (.arr 66 2 (l291.map cS66)))]) Sub.tt ?_
           refine Chain.nil ?_
           replace h := bsome h; obtain ⟨v811, hj, h⟩ := h
           refine AW.cutR (mk 219 [] [(0, .d (.lit (.int .i64 a0))), (2, .d (.sl (a2.map (cL (cI .u8))))), (3, .d (.sl (a3.map (cL cB)))), (11, .ptr 53 0 0), (13, .mref 80), (14, .ref 109 0 l293.length), (16, .d (.sl (x807.map (cI .i64)))), (17, .d (.lit (.int .i64 r809))), (18, .d (.lit (.bool v811))), (81, .d (.sl (a1.map (cL (cI .i64))))), (82, .d (.lit (.int .i64 (a1.length : Int)))), (83, .d (.lit (.int .i64 v294)))] [(53, some (.box [.ref 6060 0 l290.length, .ref 6061 0 l291.length])), (80, some (.mp (.int .i64) (encM MKey.ik (vO (cI .u8)) m292))), (109, some (.arr 38 2 (l293.map cS66))), (6060, some (.arr 30 1 (l290.map (cL (cI .u8))))), (6061, some (.arr 66 2 (l291.map cS66)))]) ?_ ?_
           ·clear h; have h := hj; clear hj
            refine Chain.runK [] 3 fun K hK => ?_; simp; refine hK _ _ ?_; clear hK K
            refine Chain.sub (S' := mk 219 [] [(0, .d (.lit (.int .i64 a0))), (2, .d (.sl (a2.map (cL (cI .u8))))), (3, .d (.sl (a3.map (cL cB)))), (11, .ptr 53 0 0), (13, .mref 80), (14, .ref 109 0 l293.length), (16, .d (.sl (x807.map (cI .i64)))), (17, .d (.lit (.int .i64 r809))), (81, .d (.sl (a1.map (cL (cI .i64))))), (82, .d (.lit (.int .i64 (a1.length : Int)))), (83, .d (.lit (.int .i64 v294))), (91, .d (.lit (.bool (decide (r809 ≥ 0)))))] [(53, some (.box [.ref 6060 0 l290.length, .ref 6061 0 l291.length])), (80, some (.mp (.int .i64) (encM MKey.ik (vO (cI .u8)) m292))), (109, some (.arr 38 2 (l293.map cS66))), (6060, some (.arr 30 1 (l290.map (cL (cI .u8))))), (6061, some (.arr 66 2 (l291.map cS66)))]) Sub.tt ?_
            replace h := isome h; rcases h with ⟨c812, h⟩ | ⟨c812, h⟩
            ·have c812_ : decide (r809 ≥ 0) = true := decide_eq_true c812
             refine Chain.sub (Sub.bool 91 (b := decide (r809 ≥ 0)) rfl c812_) ?_
             refine Chain.sub (S' := mk 219 [] [(0, .d (.lit (.int .i64 a0))), (2, .d (.sl (a2.map (cL (cI .u8))))), (3, .d (.sl (a3.map (cL cB)))), (11, .ptr 53 0 0), (13, .mref 80), (14, .ref 109 0 l293.length), (16, .d (.sl (x807.map (cI .i64)))), (17, .d (.lit (.int .i64 r809))), (81, .d (.sl (a1.map (cL (cI .i64))))), (82, .d (.lit (.int .i64 (a1.length : Int)))), (83, .d (.lit (.int .i64 v294))), (91, .d (.lit (.bool true)))] [(53, some (.box [.ref 6060 0 l290.length, .ref 6061 0 l291.length])), (80, some (.mp (.int .i64) (encM MKey.ik (vO (cI .u8)) m292))), (109, some (.arr 38 2 (l293.map cS66))), (6060, some (.arr 30 1 (l290.map (cL (cI .u8))))), (6061, some (.arr 66 2 (l291.map cS66)))]) (by simp; exact Sub.table (by simp) (by simp)) ?_
             refine Chain.runK [] 5 fun K hK => ?_; simp; refine hK _ _ ?_; clear hK K
             refine Chain.sub (S' := mk 219 [] [(0, .d (.lit (.int .i64 a0))), (2, .d (.sl (a2.map (cL (cI .u8))))), (3, .d (.sl (a3.map (cL cB)))), (11, .ptr 53 0 0), (13, .mref 80), (14, .ref 109 0 l293.length), (16, .d (.sl (x807.map (cI .i64)))), (17, .d (.lit (.int .i64 r809))), (18, .d (.lit (.bool (decide (r809 < a0))))), (81, .d (.sl (a1.map (cL (cI .i64))))), (82, .d (.lit (.int .i64 (a1.length : Int)))), (83, .d (.lit (.int .i64 v294))), (92, .d (.lit (.int .i64 r809))), (93, .d (.lit (.int .i64 a0))), (94, .d (.lit (.bool (decide (r809 < a0)))))] [(53, some (.box [.ref 6060 0 l290.length, .ref 6061 0 l291.length])), (80, some (.mp (.int .i64) (encM MKey.ik (vO (cI .u8)) m292))), (109, some (.arr 38 2 (l293.map cS66))), (6060, some (.arr 30 1 (l290.map (cL (cI .u8))))), (6061, some (.arr 66 2 (l291.map cS66)))]) Sub.tt ?_
             cases h
             exact Chain.nil Sub.tt
            ·have c812_ : decide (r809 ≥ 0) = false := decide_eq_false c812
             refine Chain.sub (Sub.bool 91 (b := decide (r809 ≥ 0)) rfl c812_) ?_
             refine Chain.sub (S' := mk 219 [] [(0, .d (.lit (.int .i64 a0))), (2, .d (.sl (a2.map (cL (cI .u8))))), (3, .d (.sl (a3.map (cL cB)))), (11, .ptr 53 0 0), (13, .mref 80), (14, .ref 109 0 l293.length), (16, .d (.sl (x807.map (cI .i64)))), (17, .d (.lit (.int .i64 r809))), (81, .d (.sl (a1.map (cL (cI .i64))))), (82, .d (.lit (.int .i64 (a1.length : Int)))), (83, .d (.lit (.int .i64 v294))), (91, .d (.lit (.bool false)))] [(53, some (.box [.ref 6060 0 l290.length, .ref 6061 0 l291.length])), (80, some (.mp (.int .i64) (encM MKey.ik (vO (cI .u8)) m292))), (109, some (.arr 38 2 (l293.map cS66))), (6060, some (.arr 30 1 (l290.map (cL (cI .u8))))), (6061, some (.arr 66 2 (l291.map cS66)))]) (by simp; exact Sub.table (by simp) (by simp)) ?_
             refine Chain.runK [] 5 fun K hK => ?_; simp; refine hK _ _ ?_; clear hK K
             refine Chain.sub (S' := mk 219 [] [(0, .d (.lit (.int .i64 a0))), (2, .d (.sl (a2.map (cL (cI .u8))))), (3, .d (.sl (a3.map (cL cB)))), (11, .ptr 53 0 0), (13, .mref 80), (14, .ref 109 0 l293.length), (16, .d (.sl (x807.map (cI .i64)))), (17, .d (.lit (.int .i64 r809))), (18, .d (.lit (.bool false))), (81, .d (.sl (a1.map (cL (cI .i64))))), (82, .d (.lit (.int .i64 (a1.length : Int)))), (83, .d (.lit (.int .i64 v294))), (92, .tup []), (93, .tup []), (94, .tup [])] [(53, some (.box [.ref 6060 0 l290.length, .ref 6061 0 l291.length])), (80, some (.mp (.int .i64) (encM MKey.ik (vO (cI .u8)) m292))), (109, some (.arr 38 2 (l293.map cS66))), (6060, some (.arr 30 1 (l290.map (cL (cI .u8))))), (6061, some (.arr 66 2 (l291.map cS66)))]) Sub.tt ?_
             cases h
             exact Chain.nil Sub.tt
           ·clear hj
            refine AW.seq ?_
            refine AW.seqR ?_
            refine Chain.runK [] 1 fun K hK => ?_; simp; refine hK _ _ ?_; clear hK K
            refine Chain.sub (S' := mk 219 [] [(0, .d (.lit (.int .i64 a0))), (2, .d (.sl (a2.map (cL (cI .u8))))), (3, .d (.sl (a3.map (cL cB)))), (11, .ptr 53 0 0), (13, .mref 80), (14, .ref 109 0 l293.length), (16, .d (.sl (x807.map (cI .i64)))), (17, .d (.lit (.int .i64 r809))), (18, .d (.lit (.bool v811))), (81, .d (.sl (a1.map (cL (cI .i64))))), (82, .d (.lit (.int .i64 (a1.length : Int)))), (83, .d (.lit (.int .i64 v294))), (96, .d (.sl (x807.map (cI .i64))))] [(53, some (.box [.ref 6060 0 l290.length, .ref 6061 0 l291.length])), (80, some (.mp (.int .i64) (encM MKey.ik (vO (cI .u8)) m292))), (109, some (.arr 38 2 (l293.map cS66))), (6060, some (.arr 30 1 (l290.map (cL (cI .u8))))), (6061, some (.arr 66 2 (l291.map cS66)))]) Sub.tt ?_
            replace h := bsome h; obtain ⟨r813, hr813, h⟩ := h
            refine Chain.callL (d := 97) (p9 N x807 0 r813 hr813) (by simp) rfl rfl (by simp <;> rfl) (by simp <;> rfl) ent9 (by simp <;> rfl) ?_
            refine Chain.sub (S' := mk 219 [] [(0, .d (.lit (.int .i64 a0))), (2, .d (.sl (a2.map (cL (cI .u8))))), (3, .d (.sl (a3.map (cL cB)))), (11, .ptr 53 0 0), (13, .mref 80), (14, .ref 109 0 l293.length), (16, .d (.sl (x807.map (cI .i64)))), (17, .d (.lit (.int .i64 r809))), (18, .d (.lit (.bool v811))), (81, .d (.sl (a1.map (cL (cI .i64))))), (82, .d (.lit (.int .i64 (a1.length : Int)))), (83, .d (.lit (.int .i64 v294))), (96, .d (.sl (x807.map (cI .i64)))), (97, .d (.lit (.int .i64 r813)))] [(53, some (.box [.ref 6060 0 l290.length, .ref 6061 0 l291.length])), (80, some (.mp (.int .i64) (encM MKey.ik (vO (cI .u8)) m292))), (109, some (.arr 38 2 (l293.map cS66))), (6060, some (.arr 30 1 (l290.map (cL (cI .u8))))), (6061, some (.arr 66 2 (l291.map cS66)))]) (by simp; exact Sub.table (by simp) (by simp)) ?_
            refine Chain.nil ?_
            refine AW.block ?_
            refine AW.seqR ?_
            refine Chain.runK [] 2 fun K hK => ?_; simp; refine hK _ _ ?_; clear hK K
            refine Chain.sub (S' := mk 219 [] [(0, .d (.lit (.int .i64 a0))), (2, .d (.sl (a2.map (cL (cI .u8))))), (3, .d (.sl (a3.map (cL cB)))), (11, .ptr 53 0 0), (13, .mref 80), (14, .ref 109 0 l293.length), (16, .d (.sl (x807.map (cI .i64)))), (17, .d (.lit (.int .i64 r809))), (18, .d (.lit (.bool v811))), (81, .d (.sl (a1.map (cL (cI .i64))))), (82, .d (.lit (.int .i64 (a1.length : Int)))), (83, .d (.lit (.int .i64 v294))), (97, .d (.lit (.int .i64 r813))), (98, .d (.lit (.bool (r813 == 1))))] [(53, some (.box [.ref 6060 0 l290.length, .ref 6061 0 l291.length])), (80, some (.mp (.int .i64) (encM MKey.ik (vO (cI .u8)) m292))), (109, some (.arr 38 2 (l293.map cS66))), (6060, some (.arr 30 1 (l290.map (cL (cI .u8))))), (6061, some (.arr 66 2 (l291.map cS66)))]) Sub.tt ?_
            refine Chain.nil ?_
            refine AW.lastJ (fun ((l907, l908, m909, l910) : ((List (List Int)) × (List S66) × (List (Int × (List Int))) × (List S66))) => mk 219 [] [(0, .d (.lit (.int .i64 a0))), (2, .d (.sl (a2.map (cL (cI .u8))))), (3, .d (.sl (a3.map (cL cB)))), (11, .ptr 53 0 0), (13, .mref 80), (14, .ref 109 0 l910.length), (17, .d (.lit (.int .i64 r809))), (18, .d (.lit (.bool v811))), (81, .d (.sl (a1.map (cL (cI .i64))))), (82, .d (.lit (.int .i64 (a1.length : Int)))), (83, .d (.lit (.int .i64 v294)))] [(53, some (.box [.ref 6060 0 l907.length, .ref 6061 0 l908.length])), (80, some (.mp (.int .i64) (encM MKey.ik (vO (cI .u8)) m909))), (109, some (.arr 38 2 (l910.map cS66))), (6060, some (.arr 30 1 (l907.map (cL (cI .u8))))), (6061, some (.arr 66 2 (l908.map cS66)))]) h ?_ ?_ <;> clear h
            ·intro o h
             replace h := isome h; rcases h with ⟨c911, h⟩ | ⟨c911, h⟩
             ·have c911_ : (r813 == 1) = true := c911
              refine AW.condT (b := (r813 == 1)) rfl c911_ ?_
              refine AW.sub (Sub.bool 98 (b := (r813 == 1)) rfl c911_) ?_
              refine AW.sub (S' := mk 219 [] [(0, .d (.lit (.int .i64 a0))), (2, .d (.sl (a2.map (cL (cI .u8))))), (3, .d (.sl (a3.map (cL cB)))), (11, .ptr 53 0 0), (13, .mref 80), (14, .ref 109 0 l293.length), (16, .d (.sl (x807.map (cI .i64)))), (17, .d (.lit (.int .i64 r809))), (18, .d (.lit (.bool v811))), (81, .d (.sl (a1.map (cL (cI .i64))))), (82, .d (.lit (.int .i64 (a1.length : Int)))), (83, .d (.lit (.int .i64 v294))), (97, .d (.lit (.int .i64 r813))), (98, .d (.lit (.bool true)))] [(53, some (.box [.ref 6060 0 l290.length, .ref 6061 0 l291.length])), (80, some (.mp (.int .i64) (encM MKey.ik (vO (cI .u8)) m292))), (109, some (.arr 38 2 (l293.map cS66))), (6060, some (.arr 30 1 (l290.map (cL (cI .u8))))), (6061, some (.arr 66 2 (l291.map cS66)))]) (by simp; exact Sub.table (by simp) (by simp)) ?_
              refine AW.seqR ?_
              refine Chain.runK [] 2 fun K hK => ?_; simp; refine hK _ _ ?_; clear hK K
              refine Chain.sub (S' := mk 219 [] [(0, .d (.lit (.int .i64 a0))), (2, .d (.sl (a2.map (cL (cI .u8))))), (3, .d (.sl (a3.map (cL cB)))), (11, .ptr 53 0 0), (13, .mref 80), (14, .ref 109 0 l293.length), (17, .d (.lit (.int .i64 r809))), (18, .d (.lit (.bool v811))), (81, .d (.sl (a1.map (cL (cI .i64))))), (82, .d (.lit (.int .i64 (a1.length : Int)))), (83, .d (.lit (.int .i64 v294))), (100, .d (.sl (a2.map (cL (cI .u8))))), (101, .d (.sl (x807.map (cI .i64))))] [(53, some (.box [.ref 6060 0 l290.length, .ref 6061 0 l291.length])), (80, some (.mp (.int .i64) (encM MKey.ik (vO (cI .u8)) m292))), (109, some (.arr 38 2 (l293.map cS66))), (6060, some (.arr 30 1 (l290.map (cL (cI .u8))))), (6061, some (.arr 66 2 (l291.map cS66)))]) Sub.tt ?_
              replace h := bsome h; obtain ⟨r912, hr912, h⟩ := h
              refine Chain.callL (d := 102) (p9 N x807 2 r912 hr912) (by simp) rfl rfl (by simp <;> rfl) (by simp <;> rfl) ent9 (by simp <;> rfl) ?_
              refine Chain.sub (S' := mk 219 [] [(0, .d (.lit (.int .i64 a0))), (2, .d (.sl (a2.map (cL (cI .u8))))), (3, .d (.sl (a3.map (cL cB)))), (11, .ptr 53 0 0), (13, .mref 80), (14, .ref 109 0 l293.length), (17, .d (.lit (.int .i64 r809))), (18, .d (.lit (.bool v811))), (81, .d (.sl (a1.map (cL (cI .i64))))), (82, .d (.lit (.int .i64 (a1.length : Int)))), (83, .d (.lit (.int .i64 v294))), (100, .d (.sl (a2.map (cL (cI .u8))))), (101, .d (.sl (x807.map (cI .i64)))), (102, .d (.lit (.int .i64 r912)))] [(53, some (.box [.ref 6060 0 l290.length, .ref 6061 0 l291.length])), (80, some (.mp (.int .i64) (encM MKey.ik (vO (cI .u8)) m292))), (109, some (.arr 38 2 (l293.map cS66))), (6060, some (.arr 30 1 (l290.map (cL (cI .u8))))), (6061, some (.arr 66 2 (l291.map cS66)))]) (by simp; exact Sub.table (by simp) (by simp)) ?_
              replace h := bsome h; obtain ⟨r913, hr913, h⟩ := h
              refine Chain.callC (d := 103) (p10 N a2 r912 r913 hr913) (by simp) rfl rfl (by simp <;> rfl) (by simp <;> rfl) ent10 (by simp) (.inl ⟨by simp, by simp⟩) ?_
              refine Chain.sub (S' := mk 219 [] [(0, .d (.lit (.int .i64 a0))), (2, .d (.sl (a2.map (cL (cI .u8))))), (3, .d (.sl (a3.map (cL cB)))), (11, .ptr 53 0 0), (13, .mref 80), (14, .ref 109 0 l293.length), (17, .d (.lit (.int .i64 r809))), (18, .d (.lit (.bool v811))), (81, .d (.sl (a1.map (cL (cI .i64))))), (82, .d (.lit (.int .i64 (a1.length : Int)))), (83, .d (.lit (.int .i64 v294))), (100, .d (.sl (a2.map (cL (cI .u8))))), (101, .d (.sl (x807.map (cI .i64)))), (102, .d (.lit (.int .i64 r912))), (103, .d (.sl (r913.map (cI .u8))))] [(53, some (.box [.ref 6060 0 l290.length, .ref 6061 0 l291.length])), (80, some (.mp (.int .i64) (encM MKey.ik (vO (cI .u8)) m292))), (109, some (.arr 38 2 (l293.map cS66))), (6060, some (.arr 30 1 (l290.map (cL (cI .u8))))), (6061, some (.arr 66 2 (l291.map cS66)))]) (by simp; exact Sub.table (by simp) (by simp)) ?_
              refine Chain.runK [] 1 fun K hK => ?_; simp; refine hK _ _ ?_; clear hK K
              refine Chain.sub (S' := mk 219 [] [(0, .d (.lit (.int .i64 a0))), (2, .d (.sl (a2.map (cL (cI .u8))))), (3, .d (.sl (a3.map (cL cB)))), (11, .ptr 53 0 0), (13, .mref 80), (14, .ref 109 0 l293.length), (17, .d (.lit (.int .i64 r809))), (18, .d (.lit (.bool v811))), (19, .d (.sl (r913.map (cI .u8)))), (81, .d (.sl (a1.map (cL (cI .i64))))), (82, .d (.lit (.int .i64 (a1.length : Int)))), (83, .d (.lit (.int .i64 v294)))] [(53, some (.box [.ref 6060 0 l290.length, .ref 6061 0 l291.length])), (80, some (.mp (.int .i64) (encM MKey.ik (vO (cI .u8)) m292))), (109, some (.arr 38 2 (l293.map cS66))), (6060, some (.arr 30 1 (l290.map (cL (cI .u8))))), (6061, some (.arr 66 2 (l291.map cS66)))]) Sub.tt ?_
              refine Chain.nil ?_
              refine AW.seqR ?_
              refine Chain.runK [] 1 fun K hK => ?_; simp; refine hK _ _ ?_; clear hK K
              refine Chain.sub (S' := mk 219 [] [(0, .d (.lit (.int .i64 a0))), (2, .d (.sl (a2.map (cL (cI .u8))))), (3, .d (.sl (a3.map (cL cB)))), (11, .ptr 53 0 0), (13, .mref 80), (14, .ref 109 0 l293.length), (17, .d (.lit (.int .i64 r809))), (18, .d (.lit (.bool v811))), (19, .d (.sl (r913.map (cI .u8)))), (20, .d (.lit (.int .i64 0))), (81, .d (.sl (a1.map (cL (cI .i64))))), (82, .d (.lit (.int .i64 (a1.length : Int)))), (83, .d (.lit (.int .i64 v294)))] [(53, some (.box [.ref 6060 0 l290.length, .ref 6061 0 l291.length])), (80, some (.mp (.int .i64) (encM MKey.ik (vO (cI .u8)) m292))), (109, some (.arr 38 2 (l293.map cS66))), (6060, some (.arr 30 1 (l290.map (cL (cI .u8))))), (6061, some (.arr 66 2 (l291.map cS66)))]) Sub.tt ?_
              refine Chain.nil ?_
              refine AW.seq ?_
              refine AW.block ?_
              refine AW.seqR ?_
              refine Chain.runK [] 3 fun K hK => ?_; simp; refine hK _ _ ?_; clear hK K
              refine Chain.sub (S' := mk 219 [] [(0, .d (.lit (.int .i64 a0))), (2, .d (.sl (a2.map (cL (cI .u8))))), (3, .d (.sl (a3.map (cL cB)))), (11, .ptr 53 0 0), (13, .mref 80), (14, .ref 109 0 l293.length), (17, .d (.lit (.int .i64 r809))), (18, .d (.lit (.bool v811))), (19, .d (.sl (r913.map (cI .u8)))), (20, .d (.lit (.int .i64 0))), (81, .d (.sl (a1.map (cL (cI .i64))))), (82, .d (.lit (.int .i64 (a1.length : Int)))), (83, .d (.lit (.int .i64 v294))), (110, .d (.lit (.bool (!v811))))] [(53, some (.box [.ref 6060 0 l290.length, .ref 6061 0 l291.length])), (80, some (.mp (.int .i64) (encM MKey.ik (vO (cI .u8)) m292))), (109, some (.arr 38 2 (l293.map cS66))), (6060, some (.arr 30 1 (l290.map (cL (cI .u8))))), (6061, some (.arr 66 2 (l291.map cS66)))]) Sub.tt ?_
              refine Chain.nil ?_
              refine AW.lastN (fun ((l918, v919) : ((List S66) × Int)) => mk 219 [] [(0, .d (.lit (.int .i64 a0))), (2, .d (.sl (a2.map (cL (cI .u8))))), (3, .d (.sl (a3.map (cL cB)))), (11, .ptr 53 0 0), (13, .mref 80), (14, .ref 109 0 l918.length), (17, .d (.lit (.int .i64 r809))), (18, .d (.lit (.bool v811))), (19, .d (.sl (r913.map (cI .u8)))), (20, .d (.lit (.int .i64 v919))), (81, .d (.sl (a1.map (cL (cI .i64))))), (82, .d (.lit (.int .i64 (a1.length : Int)))), (83, .d (.lit (.int .i64 v294)))] [(53, some (.box [.ref 6060 0 l290.length, .ref 6061 0 l291.length])), (80, some (.mp (.int .i64) (encM MKey.ik (vO (cI .u8)) m292))), (109, some (.arr 38 2 (l918.map cS66))), (6060, some (.arr 30 1 (l290.map (cL (cI .u8))))), (6061, some (.arr 66 2 (l291.map cS66)))]) h ?_ ?_ <;> clear h
              ·intro o h
               replace h := isome h; rcases h with ⟨c920, h⟩ | ⟨c920, h⟩
               ·have c920_ : (!v811) = true := c920
                refine AW.condT (b := (!v811)) rfl c920_ ?_
                refine AW.sub (Sub.bool 110 (b := (!v811)) rfl c920_) ?_
                refine AW.sub (S' := mk 219 [] [(0, .d (.lit (.int .i64 a0))), (2, .d (.sl (a2.map (cL (cI .u8))))), (3, .d (.sl (a3.map (cL cB)))), (11, .ptr 53 0 0), (13, .mref 80), (14, .ref 109 0 l293.length), (17, .d (.lit (.int .i64 r809))), (18, .d (.lit (.bool v811))), (19, .d (.sl (r913.map (cI .u8)))), (20, .d (.lit (.int .i64 0))), (81, .d (.sl (a1.map (cL (cI .i64))))), (82, .d (.lit (.int .i64 (a1.length : Int)))), (83, .d (.lit (.int .i64 v294))), (110, .d (.lit (.bool true)))] [(53, some (.box [.ref 6060 0 l290.length, .ref 6061 0 l291.length])), (80, some (.mp (.int .i64) (encM MKey.ik (vO (cI .u8)) m292))), (109, some (.arr 38 2 (l293.map cS66))), (6060, some (.arr 30 1 (l290.map (cL (cI .u8))))), (6061, some (.arr 66 2 (l291.map cS66)))]) (by simp; exact Sub.table (by simp) (by simp)) ?_
                refine AW.region ?_
                refine Chain.runK [] 1 fun K hK => ?_; simp; refine hK _ _ ?_; clear hK K
                refine Chain.sub (S' := mk 219 [] [(0, .d (.lit (.int .i64 a0))), (2, .d (.sl (a2.map (cL (cI .u8))))), (3, .d (.sl (a3.map (cL cB)))), (11, .ptr 53 0 0), (13, .mref 80), (14, .ref 109 0 l293.length), (17, .d (.lit (.int .i64 r809))), (18, .d (.lit (.bool v811))), (19, .d (.sl (r913.map (cI .u8)))), (20, .d (.lit (.int .i64 1))), (81, .d (.sl (a1.map (cL (cI .i64))))), (82, .d (.lit (.int .i64 (a1.length : Int)))), (83, .d (.lit (.int .i64 v294)))] [(53, some (.box [.ref 6060 0 l290.length, .ref 6061 0 l291.length])), (80, some (.mp (.int .i64) (encM MKey.ik (vO (cI .u8)) m292))), (109, some (.arr 38 2 (l293.map cS66))), (6060, some (.arr 30 1 (l290.map (cL (cI .u8))))), (6061, some (.arr 66 2 (l291.map cS66)))]) Sub.tt ?_
                refine Chain.nil ?_
                cases h
                refine PostN.next ?_
                exact Sub.tt
               ·have c920_ : (!v811) = false := Bool.eq_false_iff.2 c920
                refine AW.condF (b := (!v811)) rfl c920_ ?_
                refine AW.sub (Sub.bool 110 (b := (!v811)) rfl c920_) ?_
                refine AW.sub (S' := mk 219 [] [(0, .d (.lit (.int .i64 a0))), (2, .d (.sl (a2.map (cL (cI .u8))))), (3, .d (.sl (a3.map (cL cB)))), (11, .ptr 53 0 0), (13, .mref 80), (14, .ref 109 0 l293.length), (17, .d (.lit (.int .i64 r809))), (18, .d (.lit (.bool v811))), (19, .d (.sl (r913.map (cI .u8)))), (20, .d (.lit (.int .i64 0))), (81, .d (.sl (a1.map (cL (cI .i64))))), (82, .d (.lit (.int .i64 (a1.length : Int)))), (83, .d (.lit (.int .i64 v294))), (110, .d (.lit (.bool false)))] [(53, some (.box [.ref 6060 0 l290.length, .ref 6061 0 l291.length])), (80, some (.mp (.int .i64) (encM MKey.ik (vO (cI .u8)) m292))), (109, some (.arr 38 2 (l293.map cS66))), (6060, some (.arr 30 1 (l290.map (cL (cI .u8))))), (6061, some (.arr 66 2 (l291.map cS66)))]) (by simp; exact Sub.table (by simp) (by simp)) ?_
                refine AW.seqR ?_
                refine Chain.runK [] 4 fun K hK => ?_; simp; refine hK _ _ ?_; clear hK K
                refine Chain.sub (S' := mk 219 [] [(0, .d (.lit (.int .i64 a0))), (2, .d (.sl (a2.map (cL (cI .u8))))), (3, .d (.sl (a3.map (cL cB)))), (11, .ptr 53 0 0), (13, .mref 80), (14, .ref 109 0 l293.length), (17, .d (.lit (.int .i64 r809))), (18, .d (.lit (.bool v811))), (19, .d (.sl (r913.map (cI .u8)))), (20, .d (.lit (.int .i64 0))), (81, .d (.sl (a1.map (cL (cI .i64))))), (82, .d (.lit (.int .i64 (a1.length : Int)))), (83, .d (.lit (.int .i64 v294))), (113, .d (.lit (.bool (decide ((r913.length : Int) > 32)))))] [(53, some (.box [.ref 6060 0 l290.length, .ref 6061 0 l291.length])), (80, some (.mp (.int .i64) (encM MKey.ik (vO (cI .u8)) m292))), (109, some (.arr 38 2 (l293.map cS66))), (6060, some (.arr 30 1 (l290.map (cL (cI .u8))))), (6061, some (.arr 66 2 (l291.map cS66)))]) Sub.tt ?_
                refine Chain.nil ?_
                replace h := isome h; rcases h with ⟨c921, h⟩ | ⟨c921, h⟩
                ·have c921_ : decide ((r913.length : Int) > 32) = true := decide_eq_true c921
                 refine AW.condT (b := decide ((r913.length : Int) > 32)) rfl c921_ ?_
                 refine AW.sub (Sub.bool 113 (b := decide ((r913.length : Int) > 32)) rfl c921_) ?_
                 refine AW.sub (S' := mk 219 [] [(0, .d (.lit (.int .i64 a0))), (2, .d (.sl (a2.map (cL (cI .u8))))), (3, .d (.sl (a3.map (cL cB)))), (11, .ptr 53 0 0), (13, .mref 80), (14, .ref 109 0 l293.length), (17, .d (.lit (.int .i64 r809))), (18, .d (.lit (.bool v811))), (19, .d (.sl (r913.map (cI .u8)))), (20, .d (.lit (.int .i64 0))), (81, .d (.sl (a1.map (cL (cI .i64))))), (82, .d (.lit (.int .i64 (a1.length : Int)))), (83, .d (.lit (.int .i64 v294))), (113, .d (.lit (.bool true)))] [(53, some (.box [.ref 6060 0 l290.length, .ref 6061 0 l291.length])), (80, some (.mp (.int .i64) (encM MKey.ik (vO (cI .u8)) m292))), (109, some (.arr 38 2 (l293.map cS66))), (6060, some (.arr 30 1 (l290.map (cL (cI .u8))))), (6061, some (.arr 66 2 (l291.map cS66)))]) (by simp; exact Sub.table (by simp) (by simp)) ?_
                 refine AW.region ?_
                 refine Chain.runK [] 1 fun K hK => ?_; simp; refine hK _ _ ?_; clear hK K
                 refine Chain.sub (S' := mk 219 [] [(0, .d (.lit (.int .i64 a0))), (2, .d (.sl (a2.map (cL (cI .u8))))), (3, .d (.sl (a3.map (cL cB)))), (11, .ptr 53 0 0), (13, .mref 80), (14, .ref 109 0 l293.length), (17, .d (.lit (.int .i64 r809))), (18, .d (.lit (.bool v811))), (19, .d (.sl (r913.map (cI .u8)))), (20, .d (.lit (.int .i64 2))), (81, .d (.sl (a1.map (cL (cI .i64))))), (82, .d (.lit (.int .i64 (a1.length : Int)))), (83, .d (.lit (.int .i64 v294)))] [(53, some (.box [.ref 6060 0 l290.length, .ref 6061 0 l291.length])), (80, some (.mp (.int .i64) (encM MKey.ik (vO (cI .u8)) m292))), (109, some (.arr 38 2 (l293.map cS66))), (6060, some (.arr 30 1 (l290.map (cL (cI .u8))))), (6061, some (.arr 66 2 (l291.map cS66)))]) Sub.tt ?_
                 refine Chain.nil ?_
                 cases h
                 refine PostN.next ?_
                 exact Sub.tt
                ·have c921_ : decide ((r913.length : Int) > 32) = false := decide_eq_false c921
                 refine AW.condF (b := decide ((r913.length : Int) > 32)) rfl c921_ ?_
                 refine AW.sub (Sub.bool 113 (b := decide ((r913.length : Int) > 32)) rfl c921_) ?_
                 refine AW.sub (S' := mk 219 [] [(0, .d (.lit (.int .i64 a0))), (2, .d (.sl (a2.map (cL (cI .u8))))), (3, .d (.sl (a3.map (cL cB)))), (11, .ptr 53 0 0), (13, .mref 80), (14, .ref 109 0 l293.length), (17, .d (.lit (.int .i64 r809))), (18, .d (.lit (.bool v811))), (19, .d (.sl (r913.map (cI .u8)))), (20, .d (.lit (.int .i64 0))), (81, .d (.sl (a1.map (cL (cI .i64))))), (82, .d (.lit (.int .i64 (a1.length : Int)))), (83, .d (.lit (.int .i64 v294))), (113, .d (.lit (.bool false)))] [(53, some (.box [.ref 6060 0 l290.length, .ref 6061 0 l291.length])), (80, some (.mp (.int .i64) (encM MKey.ik (vO (cI .u8)) m292))), (109, some (.arr 38 2 (l293.map cS66))), (6060, some (.arr 30 1 (l290.map (cL (cI .u8))))), (6061, some (.arr 66 2 (l291.map cS66)))]) (by simp; exact Sub.table (by simp) (by simp)) ?_
                 refine AW.seqR ?_
                 refine Chain.runK [] 4 fun K hK => ?_; simp; refine hK _ _ ?_; clear hK K
                 refine Chain.sub (S' := mk 219 [] [(0, .d (.lit (.int .i64 a0))), (2, .d (.sl (a2.map (cL (cI .u8))))), (3, .d (.sl (a3.map (cL cB)))), (11, .ptr 53 0 0), (13, .mref 80), (14, .ref 109 0 l293.length), (17, .d (.lit (.int .i64 r809))), (18, .d (.lit (.bool v811))), (19, .d (.sl (r913.map (cI .u8)))), (20, .d (.lit (.int .i64 0))), (81, .d (.sl (a1.map (cL (cI .i64))))), (82, .d (.lit (.int .i64 (a1.length : Int)))), (83, .d (.lit (.int .i64 v294))), (117, .d (.lit (.bool (decide ((l293.length : Int) ≥ 1000)))))] [(53, some (.box [.ref 6060 0 l290.length, .ref 6061 0 l291.length])), (80, some (.mp (.int .i64) (encM MKey.ik (vO (cI .u8)) m292))), (109, some (.arr 38 2 (l293.map cS66))), (6060, some (.arr 30 1 (l290.map (cL (cI .u8))))), (6061, some (.arr 66 2 (l291.map cS66)))]) Sub.tt ?_
                 refine Chain.nil ?_
                 replace h := isome h; rcases h with ⟨c922, h⟩ | ⟨c922, h⟩
                 ·have c922_ : decide ((l293.length : Int) ≥ 1000) = true := decide_eq_true c922
                  refine AW.condT (b := decide ((l293.length : Int) ≥ 1000)) rfl c922_ ?_
                  refine AW.sub (Sub.bool 117 (b := decide ((l293.length : Int) ≥ 1000)) rfl c922_) ?_
                  refine AW.sub (S' := mk 219 [] [(0, .d (.lit (.int .i64 a0))), (2, .d (.sl (a2.map (cL (cI .u8))))), (3, .d (.sl (a3.map (cL cB)))), (11, .ptr 53 0 0), (13, .mref 80), (14, .ref 109 0 l293.length), (17, .d (.lit (.int .i64 r809))), (18, .d (.lit (.bool v811))), (19, .d (.sl (r913.map (cI .u8)))), (20, .d (.lit (.int .i64 0))), (81, .d (.sl (a1.map (cL (cI .i64))))), (82, .d (.lit (.int .i64 (a1.length : Int)))), (83, .d (.lit (.int .i64 v294))), (117, .d (.lit (.bool true)))] [(53, some (.box [.ref 6060 0 l290.length, .ref 6061 0 l291.length])), (80, some (.mp (.int .i64) (encM MKey.ik (vO (cI .u8)) m292))), (109, some (.arr 38 2 (l293.map cS66))), (6060, some (.arr 30 1 (l290.map (cL (cI .u8))))), (6061, some (.arr 66 2 (l291.map cS66)))]) (by simp; exact Sub.table (by simp) (by simp)) ?_
                  refine AW.region ?_
                  refine Chain.runK [] 1 fun K hK => ?_; simp; refine hK _ _ ?_; clear hK K
                  refine Chain.sub (S' := mk 219 [] [(0, .d (.lit (.int .i64 a0))), (2, .d (.sl (a2.map (cL (cI .u8))))), (3, .d (.sl (a3.map (cL cB)))), (11, .ptr 53 0 0), (13, .mref 80), (14, .ref 109 0 l293.length), (17, .d (.lit (.int .i64 r809))), (18, .d (.lit (.bool v811))), (19, .d (.sl (r913.map (cI .u8)))), (20, .d (.lit (.int .i64 18))), (81, .d (.sl (a1.map (cL (cI .i64))))), (82, .d (.lit (.int .i64 (a1.length : Int)))), (83, .d (.lit (.int .i64 v294)))] [(53, some (.box [.ref 6060 0 l290.length, .ref 6061 0 l291.length])), (80, some (.mp (.int .i64) (encM MKey.ik (vO (cI .u8)) m292))), (109, some (.arr 38 2 (l293.map cS66))), (6060, some (.arr 30 1 (l290.map (cL (cI .u8))))), (6061, some (.arr 66 2 (l291.map cS66)))]) Sub.tt ?_
                  refine Chain.nil ?_
                  cases h
                  refine PostN.next ?_
                  exact Sub.tt
                 ·have c922_ : decide ((l293.length : Int) ≥ 1000) = false := decide_eq_false c922
                  refine AW.condF (b := decide ((l293.length : Int) ≥ 1000)) rfl c922_ ?_
                  refine AW.sub (Sub.bool 117 (b := decide ((l293.length : Int) ≥ 1000)) rfl c922_) ?_
                  refine AW.sub (S' := mk 219 [] [(0, .d (.lit (.int .i64 a0))), (2, .d (.sl (a2.map (cL (cI .u8))))), (3, .d (.sl (a3.map (cL cB)))), (11, .ptr 53 0 0), (13, .mref 80), (14, .ref 109 0 l293.length), (17, .d (.lit (.int .i64 r809))), (18, .d (.lit (.bool v811))), (19, .d (.sl (r913.map (cI .u8)))), (20, .d (.lit (.int .i64 0))), (81, .d (.sl (a1.map (cL (cI .i64))))), (82, .d (.lit (.int .i64 (a1.length : Int)))), (83, .d (.lit (.int .i64 v294))), (117, .d (.lit (.bool false)))] [(53, some (.box [.ref 6060 0 l290.length, .ref 6061 0 l291.length])), (80, some (.mp (.int .i64) (encM MKey.ik (vO (cI .u8)) m292))), (109, some (.arr 38 2 (l293.map cS66))), (6060, some (.arr 30 1 (l290.map (cL (cI .u8))))), (6061, some (.arr 66 2 (l291.map cS66)))]) (by simp; exact Sub.table (by simp) (by simp)) ?_
                  refine AW.region ?_
                  replace h := bsome h; obtain ⟨l923, hl923, h⟩ := h
                  obtain ⟨hl923a, hl923⟩ := appL_some hl923
                  subst hl923
                  try simp only [List.length_cons, List.length_nil, Nat.zero_add] at hl923a
                  refine Chain.runK [108] 7 fun K hK => ?_; simp [hl923a]; refine hK _ _ ?_; clear hK K
                  refine Chain.sub (S' := mk 219 [] [(0, .d (.lit (.int .i64 a0))), (2, .d (.sl (a2.map (cL (cI .u8))))), (3, .d (.sl (a3.map (cL cB)))), (11, .ptr 53 0 0), (13, .mref 80), (14, .ref 109 0 ((l293 ++ [(S66.mk r809 r913)]).length)), (17, .d (.lit (.int .i64 r809))), (18, .d (.lit (.bool v811))), (19, .d (.sl (r913.map (cI .u8)))), (20, .d (.lit (.int .i64 0))), (81, .d (.sl (a1.map (cL (cI .i64))))), (82, .d (.lit (.int .i64 (a1.length : Int)))), (83, .d (.lit (.int .i64 v294)))] [(53, some (.box [.ref 6060 0 l290.length, .ref 6061 0 l291.length])), (80, some (.mp (.int .i64) (encM MKey.ik (vO (cI .u8)) m292))), (109, some (.arr 38 2 ((l293 ++ [(S66.mk r809 r913)]).map cS66))), (6060, some (.arr 30 1 (l290.map (cL (cI .u8))))), (6061, some (.arr 66 2 (l291.map cS66)))]) Sub.tt ?_
                  refine Chain.nil ?_
                  cases h
                  refine PostN.next ?_
                  exact Sub.tt
              ·rintro ⟨l918, v919⟩ h
               dsimp only at h ⊢
               refine blockQ.normal ?_
               refine thenQ_normal ?_
               refine AW.seqR ?_
               refine Chain.runK [] 3 fun K hK => ?_; simp; refine hK _ _ ?_; clear hK K
               refine Chain.sub (S' := mk 219 [] [(0, .d (.lit (.int .i64 a0))), (2, .d (.sl (a2.map (cL (cI .u8))))), (3, .d (.sl (a3.map (cL cB)))), (11, .ptr 53 0 0), (13, .mref 80), (14, .ref 109 0 l918.length), (17, .d (.lit (.int .i64 r809))), (18, .d (.lit (.bool v811))), (20, .d (.lit (.int .i64 v919))), (81, .d (.sl (a1.map (cL (cI .i64))))), (82, .d (.lit (.int .i64 (a1.length : Int)))), (83, .d (.lit (.int .i64 v294))), (121, .ptr 53 0 0), (122, .d (.lit (.int .i64 r809))), (123, .d (.sl (r913.map (cI .u8))))] [(53, some (.box [.ref 6060 0 l290.length, .ref 6061 0 l291.length])), (80, some (.mp (.int .i64) (encM MKey.ik (vO (cI .u8)) m292))), (109, some (.arr 38 2 (l918.map cS66))), (6060, some (.arr 30 1 (l290.map (cL (cI .u8))))), (6061, some (.arr 66 2 (l291.map cS66)))]) Sub.tt ?_
               replace h := bsome h; obtain ⟨r924, hr924, h⟩ := h
               refine Chain.callF (p6 N (S64.mk l290 l291) r809 r913 r924 hr924) [(53, 1000), (6060, 25000), (6061, 25001)] [53] [(1000, 53), (25000, 6060), (25001, 6061)] [(53, (.box [.ref 6060 0 r924.1.durable.length, .ref 6061 0 r924.1.pending.length])), (6060, (.arr 30 1 (r924.1.durable.map (cL (cI .u8))))), (6061, (.arr 66 2 (r924.1.pending.map cS66)))] (.d (.lit (.int .i64 r924.2))) (by simp) rfl (by simp <;> rfl) (by simp) (by simp) (by simp) (by simp) (by simp) ent6 (by simp) (by simp) (by simp) (by simp) (by simp) (by simp) ?_
               refine Chain.sub (S' := mk 219 [] [(0, .d (.lit (.int .i64 a0))), (2, .d (.sl (a2.map (cL (cI .u8))))), (3, .d (.sl (a3.map (cL cB)))), (11, .ptr 53 0 0), (13, .mref 80), (14, .ref 109 0 l918.length), (17, .d (.lit (.int .i64 r809))), (18, .d (.lit (.bool v811))), (20, .d (.lit (.int .i64 v919))), (81, .d (.sl (a1.map (cL (cI .i64))))), (82, .d (.lit (.int .i64 (a1.length : Int)))), (83, .d (.lit (.int .i64 v294))), (121, .ptr 53 0 0), (122, .d (.lit (.int .i64 r809))), (123, .d (.sl (r913.map (cI .u8)))), (124, .d (.lit (.int .i64 r924.2)))] [(53, some (.box [.ref 6060 0 r924.1.durable.length, .ref 6061 0 r924.1.pending.length])), (80, some (.mp (.int .i64) (encM MKey.ik (vO (cI .u8)) m292))), (109, some (.arr 38 2 (l918.map cS66))), (6060, some (.arr 30 1 (r924.1.durable.map (cL (cI .u8))))), (6061, some (.arr 66 2 (r924.1.pending.map cS66)))]) (by simp; exact Sub.table (by simp) (by simp)) ?_
               refine Chain.runK [] 2 fun K hK => ?_; simp; refine hK _ _ ?_; clear hK K
               refine Chain.sub (S' := mk 219 [] [(0, .d (.lit (.int .i64 a0))), (2, .d (.sl (a2.map (cL (cI .u8))))), (3, .d (.sl (a3.map (cL cB)))), (11, .ptr 53 0 0), (13, .mref 80), (14, .ref 109 0 l918.length), (17, .d (.lit (.int .i64 r809))), (18, .d (.lit (.bool v811))), (81, .d (.sl (a1.map (cL (cI .i64))))), (82, .d (.lit (.int .i64 (a1.length : Int)))), (83, .d (.lit (.int .i64 v294))), (126, .d (.lit (.bool (r924.2 != v919))))] [(53, some (.box [.ref 6060 0 r924.1.durable.length, .ref 6061 0 r924.1.pending.length])), (80, some (.mp (.int .i64) (encM MKey.ik (vO (cI .u8)) m292))), (109, some (.arr 38 2 (l918.map cS66))), (6060, some (.arr 30 1 (r924.1.durable.map (cL (cI .u8))))), (6061, some (.arr 66 2 (r924.1.pending.map cS66)))]) Sub.tt ?_
               refine Chain.nil ?_
               replace h := isome h; rcases h with ⟨c925, h⟩ | ⟨c925, h⟩
               ·have c925_ : (r924.2 != v919) = true := c925
                refine AW.condT (b := (r924.2 != v919)) rfl c925_ ?_
                refine AW.sub (Sub.bool 126 (b := (r924.2 != v919)) rfl c925_) ?_
                refine AW.sub (S' := mk 219 [] [(0, .d (.lit (.int .i64 a0))), (2, .d (.sl (a2.map (cL (cI .u8))))), (3, .d (.sl (a3.map (cL cB)))), (11, .ptr 53 0 0), (13, .mref 80), (14, .ref 109 0 l918.length), (17, .d (.lit (.int .i64 r809))), (18, .d (.lit (.bool v811))), (81, .d (.sl (a1.map (cL (cI .i64))))), (82, .d (.lit (.int .i64 (a1.length : Int)))), (83, .d (.lit (.int .i64 v294))), (126, .d (.lit (.bool true)))] [(53, some (.box [.ref 6060 0 r924.1.durable.length, .ref 6061 0 r924.1.pending.length])), (80, some (.mp (.int .i64) (encM MKey.ik (vO (cI .u8)) m292))), (109, some (.arr 38 2 (l918.map cS66))), (6060, some (.arr 30 1 (r924.1.durable.map (cL (cI .u8))))), (6061, some (.arr 66 2 (r924.1.pending.map cS66)))]) (by simp; exact Sub.table (by simp) (by simp)) ?_
                refine AW.seqR ?_
                refine Chain.runK [] 1 fun K hK => ?_; simp; refine hK _ _ ?_; clear hK K
                refine Chain.sub (S' := mk 219 [] [(8, .d (.lit (.bool false)))] []) Sub.tt ?_
                refine Chain.nil ?_
                refine AW.ret ?_
                cases h
                refine PostJ.out (by simp) ?_
                rintro rfl
                refine blockQ.ret ?_
                refine thenQ_pass (by simp) ?_
                refine blockQ.ret ?_
                refine thenQ_pass (by simp) ?_
                refine PostI.out (by simp) ?_
                rintro rfl
                refine blockQ.ret ?_
                refine PostJ.out (by simp) ?_
                rintro rfl
                refine thenQ_pass (by simp) ?_
                exact FinC.ret (by simp) (by simp)
               ·have c925_ : (r924.2 != v919) = false := Bool.eq_false_iff.2 c925
                refine AW.condF (b := (r924.2 != v919)) rfl c925_ ?_
                refine AW.sub (Sub.bool 126 (b := (r924.2 != v919)) rfl c925_) ?_
                refine AW.sub (S' := mk 219 [] [(0, .d (.lit (.int .i64 a0))), (2, .d (.sl (a2.map (cL (cI .u8))))), (3, .d (.sl (a3.map (cL cB)))), (11, .ptr 53 0 0), (13, .mref 80), (14, .ref 109 0 l918.length), (17, .d (.lit (.int .i64 r809))), (18, .d (.lit (.bool v811))), (81, .d (.sl (a1.map (cL (cI .i64))))), (82, .d (.lit (.int .i64 (a1.length : Int)))), (83, .d (.lit (.int .i64 v294))), (126, .d (.lit (.bool false)))] [(53, some (.box [.ref 6060 0 r924.1.durable.length, .ref 6061 0 r924.1.pending.length])), (80, some (.mp (.int .i64) (encM MKey.ik (vO (cI .u8)) m292))), (109, some (.arr 38 2 (l918.map cS66))), (6060, some (.arr 30 1 (r924.1.durable.map (cL (cI .u8))))), (6061, some (.arr 66 2 (r924.1.pending.map cS66)))]) (by simp; exact Sub.table (by simp) (by simp)) ?_
                refine AW.skip ?_
                cases h
                refine PostJ.next ?_
                exact Sub.tt
             ·have c911_ : (r813 == 1) = false := Bool.eq_false_iff.2 c911
              refine AW.condF (b := (r813 == 1)) rfl c911_ ?_
              refine AW.sub (Sub.bool 98 (b := (r813 == 1)) rfl c911_) ?_
              refine AW.sub (S' := mk 219 [] [(0, .d (.lit (.int .i64 a0))), (2, .d (.sl (a2.map (cL (cI .u8))))), (3, .d (.sl (a3.map (cL cB)))), (11, .ptr 53 0 0), (13, .mref 80), (14, .ref 109 0 l293.length), (16, .d (.sl (x807.map (cI .i64)))), (17, .d (.lit (.int .i64 r809))), (18, .d (.lit (.bool v811))), (81, .d (.sl (a1.map (cL (cI .i64))))), (82, .d (.lit (.int .i64 (a1.length : Int)))), (83, .d (.lit (.int .i64 v294))), (97, .d (.lit (.int .i64 r813))), (98, .d (.lit (.bool false)))] [(53, some (.box [.ref 6060 0 l290.length, .ref 6061 0 l291.length])), (80, some (.mp (.int .i64) (encM MKey.ik (vO (cI .u8)) m292))), (109, some (.arr 38 2 (l293.map cS66))), (6060, some (.arr 30 1 (l290.map (cL (cI .u8))))), (6061, some (.arr 66 2 (l291.map cS66)))]) (by simp; exact Sub.table (by simp) (by simp)) ?_
              refine AW.seq ?_
              refine AW.seqR ?_
              refine Chain.runK [] 2 fun K hK => ?_; simp; refine hK _ _ ?_; clear hK K
              refine Chain.sub (S' := mk 219 [] [(0, .d (.lit (.int .i64 a0))), (2, .d (.sl (a2.map (cL (cI .u8))))), (3, .d (.sl (a3.map (cL cB)))), (11, .ptr 53 0 0), (13, .mref 80), (14, .ref 109 0 l293.length), (16, .d (.sl (x807.map (cI .i64)))), (17, .d (.lit (.int .i64 r809))), (18, .d (.lit (.bool v811))), (81, .d (.sl (a1.map (cL (cI .i64))))), (82, .d (.lit (.int .i64 (a1.length : Int)))), (83, .d (.lit (.int .i64 v294))), (97, .d (.lit (.int .i64 r813))), (127, .d (.lit (.bool (r813 == 2))))] [(53, some (.box [.ref 6060 0 l290.length, .ref 6061 0 l291.length])), (80, some (.mp (.int .i64) (encM MKey.ik (vO (cI .u8)) m292))), (109, some (.arr 38 2 (l293.map cS66))), (6060, some (.arr 30 1 (l290.map (cL (cI .u8))))), (6061, some (.arr 66 2 (l291.map cS66)))]) Sub.tt ?_
              refine Chain.nil ?_
              refine AW.lastN (fun (v927 : Bool) => mk 219 [] [(0, .d (.lit (.int .i64 a0))), (2, .d (.sl (a2.map (cL (cI .u8))))), (3, .d (.sl (a3.map (cL cB)))), (11, .ptr 53 0 0), (13, .mref 80), (14, .ref 109 0 l293.length), (16, .d (.sl (x807.map (cI .i64)))), (17, .d (.lit (.int .i64 r809))), (18, .d (.lit (.bool v811))), (81, .d (.sl (a1.map (cL (cI .i64))))), (82, .d (.lit (.int .i64 (a1.length : Int)))), (83, .d (.lit (.int .i64 v294))), (127, .d (.lit (.bool v927)))] [(53, some (.box [.ref 6060 0 l290.length, .ref 6061 0 l291.length])), (80, some (.mp (.int .i64) (encM MKey.ik (vO (cI .u8)) m292))), (109, some (.arr 38 2 (l293.map cS66))), (6060, some (.arr 30 1 (l290.map (cL (cI .u8))))), (6061, some (.arr 66 2 (l291.map cS66)))]) h ?_ ?_ <;> clear h
              ·intro o h
               replace h := isome h; rcases h with ⟨c928, h⟩ | ⟨c928, h⟩
               ·have c928_ : (r813 == 2) = true := c928
                refine AW.condT (b := (r813 == 2)) rfl c928_ ?_
                refine AW.sub (Sub.bool 127 (b := (r813 == 2)) rfl c928_) ?_
                refine AW.sub (S' := mk 219 [] [(0, .d (.lit (.int .i64 a0))), (2, .d (.sl (a2.map (cL (cI .u8))))), (3, .d (.sl (a3.map (cL cB)))), (11, .ptr 53 0 0), (13, .mref 80), (14, .ref 109 0 l293.length), (16, .d (.sl (x807.map (cI .i64)))), (17, .d (.lit (.int .i64 r809))), (18, .d (.lit (.bool v811))), (81, .d (.sl (a1.map (cL (cI .i64))))), (82, .d (.lit (.int .i64 (a1.length : Int)))), (83, .d (.lit (.int .i64 v294))), (97, .d (.lit (.int .i64 r813))), (127, .d (.lit (.bool true)))] [(53, some (.box [.ref 6060 0 l290.length, .ref 6061 0 l291.length])), (80, some (.mp (.int .i64) (encM MKey.ik (vO (cI .u8)) m292))), (109, some (.arr 38 2 (l293.map cS66))), (6060, some (.arr 30 1 (l290.map (cL (cI .u8))))), (6061, some (.arr 66 2 (l291.map cS66)))]) (by simp; exact Sub.table (by simp) (by simp)) ?_
                refine AW.skip ?_
                cases h
                refine PostN.next ?_
                exact Sub.tt
               ·have c928_ : (r813 == 2) = false := Bool.eq_false_iff.2 c928
                refine AW.condF (b := (r813 == 2)) rfl c928_ ?_
                refine AW.sub (Sub.bool 127 (b := (r813 == 2)) rfl c928_) ?_
                refine AW.sub (S' := mk 219 [] [(0, .d (.lit (.int .i64 a0))), (2, .d (.sl (a2.map (cL (cI .u8))))), (3, .d (.sl (a3.map (cL cB)))), (11, .ptr 53 0 0), (13, .mref 80), (14, .ref 109 0 l293.length), (16, .d (.sl (x807.map (cI .i64)))), (17, .d (.lit (.int .i64 r809))), (18, .d (.lit (.bool v811))), (81, .d (.sl (a1.map (cL (cI .i64))))), (82, .d (.lit (.int .i64 (a1.length : Int)))), (83, .d (.lit (.int .i64 v294))), (97, .d (.lit (.int .i64 r813))), (127, .d (.lit (.bool false)))] [(53, some (.box [.ref 6060 0 l290.length, .ref 6061 0 l291.length])), (80, some (.mp (.int .i64) (encM MKey.ik (vO (cI .u8)) m292))), (109, some (.arr 38 2 (l293.map cS66))), (6060, some (.arr 30 1 (l290.map (cL (cI .u8))))), (6061, some (.arr 66 2 (l291.map cS66)))]) (by simp; exact Sub.table (by simp) (by simp)) ?_
                refine AW.region ?_
                refine Chain.runK [] 2 fun K hK => ?_; simp; refine hK _ _ ?_; clear hK K
                refine Chain.sub (S' := mk 219 [] [(0, .d (.lit (.int .i64 a0))), (2, .d (.sl (a2.map (cL (cI .u8))))), (3, .d (.sl (a3.map (cL cB)))), (11, .ptr 53 0 0), (13, .mref 80), (14, .ref 109 0 l293.length), (16, .d (.sl (x807.map (cI .i64)))), (17, .d (.lit (.int .i64 r809))), (18, .d (.lit (.bool v811))), (81, .d (.sl (a1.map (cL (cI .i64))))), (82, .d (.lit (.int .i64 (a1.length : Int)))), (83, .d (.lit (.int .i64 v294))), (127, .d (.lit (.bool (r813 == 3))))] [(53, some (.box [.ref 6060 0 l290.length, .ref 6061 0 l291.length])), (80, some (.mp (.int .i64) (encM MKey.ik (vO (cI .u8)) m292))), (109, some (.arr 38 2 (l293.map cS66))), (6060, some (.arr 30 1 (l290.map (cL (cI .u8))))), (6061, some (.arr 66 2 (l291.map cS66)))]) Sub.tt ?_
                refine Chain.nil ?_
                cases h
                refine PostN.next ?_
                exact Sub.tt
              ·rintro v927 h
               refine thenQ_normal ?_
               replace h := isome h; rcases h with ⟨c929, h⟩ | ⟨c929, h⟩
               ·have c929_ : v927 = true := c929
                refine AW.condT (b := v927) rfl c929_ ?_
                refine AW.sub (Sub.bool 127 (b := v927) rfl c929_) ?_
                refine AW.sub (S' := mk 219 [] [(0, .d (.lit (.int .i64 a0))), (2, .d (.sl (a2.map (cL (cI .u8))))), (3, .d (.sl (a3.map (cL cB)))), (11, .ptr 53 0 0), (13, .mref 80), (14, .ref 109 0 l293.length), (16, .d (.sl (x807.map (cI .i64)))), (17, .d (.lit (.int .i64 r809))), (18, .d (.lit (.bool v811))), (81, .d (.sl (a1.map (cL (cI .i64))))), (82, .d (.lit (.int .i64 (a1.length : Int)))), (83, .d (.lit (.int .i64 v294))), (127, .d (.lit (.bool true)))] [(53, some (.box [.ref 6060 0 l290.length, .ref 6061 0 l291.length])), (80, some (.mp (.int .i64) (encM MKey.ik (vO (cI .u8)) m292))), (109, some (.arr 38 2 (l293.map cS66))), (6060, some (.arr 30 1 (l290.map (cL (cI .u8))))), (6061, some (.arr 66 2 (l291.map cS66)))]) (by simp; exact Sub.table (by simp) (by simp)) ?_
                refine AW.seqR ?_
                refine Chain.runK [] 2 fun K hK => ?_; simp; refine hK _ _ ?_; clear hK K
                refine Chain.sub (S' := mk 219 [] [(0, .d (.lit (.int .i64 a0))), (2, .d (.sl (a2.map (cL (cI .u8))))), (3, .d (.sl (a3.map (cL cB)))), (11, .ptr 53 0 0), (13, .mref 80), (14, .ref 109 0 l293.length), (16, .d (.sl (x807.map (cI .i64)))), (17, .d (.lit (.int .i64 r809))), (18, .d (.lit (.bool v811))), (81, .d (.sl (a1.map (cL (cI .i64))))), (82, .d (.lit (.int .i64 (a1.length : Int)))), (83, .d (.lit (.int .i64 v294))), (130, .d (.sl (a3.map (cL cB)))), (131, .d (.sl (x807.map (cI .i64))))] [(53, some (.box [.ref 6060 0 l290.length, .ref 6061 0 l291.length])), (80, some (.mp (.int .i64) (encM MKey.ik (vO (cI .u8)) m292))), (109, some (.arr 38 2 (l293.map cS66))), (6060, some (.arr 30 1 (l290.map (cL (cI .u8))))), (6061, some (.arr 66 2 (l291.map cS66)))]) Sub.tt ?_
                replace h := bsome h; obtain ⟨r930, hr930, h⟩ := h
                refine Chain.callL (d := 132) (p9 N x807 2 r930 hr930) (by simp) rfl rfl (by simp <;> rfl) (by simp <;> rfl) ent9 (by simp <;> rfl) ?_
                refine Chain.sub (S' := mk 219 [] [(0, .d (.lit (.int .i64 a0))), (2, .d (.sl (a2.map (cL (cI .u8))))), (3, .d (.sl (a3.map (cL cB)))), (11, .ptr 53 0 0), (13, .mref 80), (14, .ref 109 0 l293.length), (16, .d (.sl (x807.map (cI .i64)))), (17, .d (.lit (.int .i64 r809))), (18, .d (.lit (.bool v811))), (81, .d (.sl (a1.map (cL (cI .i64))))), (82, .d (.lit (.int .i64 (a1.length : Int)))), (83, .d (.lit (.int .i64 v294))), (130, .d (.sl (a3.map (cL cB)))), (131, .d (.sl (x807.map (cI .i64)))), (132, .d (.lit (.int .i64 r930)))] [(53, some (.box [.ref 6060 0 l290.length, .ref 6061 0 l291.length])), (80, some (.mp (.int .i64) (encM MKey.ik (vO (cI .u8)) m292))), (109, some (.arr 38 2 (l293.map cS66))), (6060, some (.arr 30 1 (l290.map (cL (cI .u8))))), (6061, some (.arr 66 2 (l291.map cS66)))]) (by simp; exact Sub.table (by simp) (by simp)) ?_
                replace h := bsome h; obtain ⟨r931, hr931, h⟩ := h
                refine Chain.callC (d := 133) (p11 N a3 r930 r931 hr931) (by simp) rfl rfl (by simp <;> rfl) (by simp <;> rfl) ent11 (by simp) (.inl ⟨by simp, by simp⟩) ?_
                refine Chain.sub (S' := mk 219 [] [(0, .d (.lit (.int .i64 a0))), (2, .d (.sl (a2.map (cL (cI .u8))))), (3, .d (.sl (a3.map (cL cB)))), (11, .ptr 53 0 0), (13, .mref 80), (14, .ref 109 0 l293.length), (16, .d (.sl (x807.map (cI .i64)))), (17, .d (.lit (.int .i64 r809))), (18, .d (.lit (.bool v811))), (81, .d (.sl (a1.map (cL (cI .i64))))), (82, .d (.lit (.int .i64 (a1.length : Int)))), (83, .d (.lit (.int .i64 v294))), (130, .d (.sl (a3.map (cL cB)))), (131, .d (.sl (x807.map (cI .i64)))), (132, .d (.lit (.int .i64 r930))), (133, .d (.sl (r931.map cB)))] [(53, some (.box [.ref 6060 0 l290.length, .ref 6061 0 l291.length])), (80, some (.mp (.int .i64) (encM MKey.ik (vO (cI .u8)) m292))), (109, some (.arr 38 2 (l293.map cS66))), (6060, some (.arr 30 1 (l290.map (cL (cI .u8))))), (6061, some (.arr 66 2 (l291.map cS66)))]) (by simp; exact Sub.table (by simp) (by simp)) ?_
                refine Chain.runK [] 1 fun K hK => ?_; simp; refine hK _ _ ?_; clear hK K
                refine Chain.sub (S' := mk 219 [] [(0, .d (.lit (.int .i64 a0))), (2, .d (.sl (a2.map (cL (cI .u8))))), (3, .d (.sl (a3.map (cL cB)))), (11, .ptr 53 0 0), (13, .mref 80), (14, .ref 109 0 l293.length), (16, .d (.sl (x807.map (cI .i64)))), (17, .d (.lit (.int .i64 r809))), (18, .d (.lit (.bool v811))), (21, .d (.sl (r931.map cB))), (81, .d (.sl (a1.map (cL (cI .i64))))), (82, .d (.lit (.int .i64 (a1.length : Int)))), (83, .d (.lit (.int .i64 v294)))] [(53, some (.box [.ref 6060 0 l290.length, .ref 6061 0 l291.length])), (80, some (.mp (.int .i64) (encM MKey.ik (vO (cI .u8)) m292))), (109, some (.arr 38 2 (l293.map cS66))), (6060, some (.arr 30 1 (l290.map (cL (cI .u8))))), (6061, some (.arr 66 2 (l291.map cS66)))]) Sub.tt ?_
                refine Chain.nil ?_
                refine AW.seqR ?_
                refine Chain.runK [] 1 fun K hK => ?_; simp; refine hK _ _ ?_; clear hK K
                refine Chain.sub (S' := mk 219 [] [(0, .d (.lit (.int .i64 a0))), (2, .d (.sl (a2.map (cL (cI .u8))))), (3, .d (.sl (a3.map (cL cB)))), (11, .ptr 53 0 0), (13, .mref 80), (14, .ref 109 0 l293.length), (17, .d (.lit (.int .i64 r809))), (18, .d (.lit (.bool v811))), (21, .d (.sl (r931.map cB))), (81, .d (.sl (a1.map (cL (cI .i64))))), (82, .d (.lit (.int .i64 (a1.length : Int)))), (83, .d (.lit (.int .i64 v294))), (134, .d (.sl (x807.map (cI .i64))))] [(53, some (.box [.ref 6060 0 l290.length, .ref 6061 0 l291.length])), (80, some (.mp (.int .i64) (encM MKey.ik (vO (cI .u8)) m292))), (109, some (.arr 38 2 (l293.map cS66))), (6060, some (.arr 30 1 (l290.map (cL (cI .u8))))), (6061, some (.arr 66 2 (l291.map cS66)))]) Sub.tt ?_
                replace h := bsome h; obtain ⟨r932, hr932, h⟩ := h
                refine Chain.callL (d := 135) (p9 N x807 0 r932 hr932) (by simp) rfl rfl (by simp <;> rfl) (by simp <;> rfl) ent9 (by simp <;> rfl) ?_
                refine Chain.sub (S' := mk 219 [] [(0, .d (.lit (.int .i64 a0))), (2, .d (.sl (a2.map (cL (cI .u8))))), (3, .d (.sl (a3.map (cL cB)))), (11, .ptr 53 0 0), (13, .mref 80), (14, .ref 109 0 l293.length), (17, .d (.lit (.int .i64 r809))), (18, .d (.lit (.bool v811))), (21, .d (.sl (r931.map cB))), (81, .d (.sl (a1.map (cL (cI .i64))))), (82, .d (.lit (.int .i64 (a1.length : Int)))), (83, .d (.lit (.int .i64 v294))), (134, .d (.sl (x807.map (cI .i64)))), (135, .d (.lit (.int .i64 r932)))] [(53, some (.box [.ref 6060 0 l290.length, .ref 6061 0 l291.length])), (80, some (.mp (.int .i64) (encM MKey.ik (vO (cI .u8)) m292))), (109, some (.arr 38 2 (l293.map cS66))), (6060, some (.arr 30 1 (l290.map (cL (cI .u8))))), (6061, some (.arr 66 2 (l291.map cS66)))]) (by simp; exact Sub.table (by simp) (by simp)) ?_
                refine Chain.runK [] 2 fun K hK => ?_; simp; refine hK _ _ ?_; clear hK K
                refine Chain.sub (S' := mk 219 [] [(0, .d (.lit (.int .i64 a0))), (2, .d (.sl (a2.map (cL (cI .u8))))), (3, .d (.sl (a3.map (cL cB)))), (11, .ptr 53 0 0), (13, .mref 80), (14, .ref 109 0 l293.length), (17, .d (.lit (.int .i64 r809))), (18, .d (.lit (.bool v811))), (21, .d (.sl (r931.map cB))), (22, .d (.lit (.bool (r932 == 2)))), (81, .d (.sl (a1.map (cL (cI .i64))))), (82, .d (.lit (.int .i64 (a1.length : Int)))), (83, .d (.lit (.int .i64 v294)))] [(53, some (.box [.ref 6060 0 l290.length, .ref 6061 0 l291.length])), (80, some (.mp (.int .i64) (encM MKey.ik (vO (cI .u8)) m292))), (109, some (.arr 38 2 (l293.map cS66))), (6060, some (.arr 30 1 (l290.map (cL (cI .u8))))), (6061, some (.arr 66 2 (l291.map cS66)))]) Sub.tt ?_
                refine Chain.nil ?_
                refine AW.seq ?_
                refine AW.seqR ?_
                refine Chain.runK [] 1 fun K hK => ?_; simp; refine hK _ _ ?_; clear hK K
                refine Chain.sub (S' := mk 219 [] [(0, .d (.lit (.int .i64 a0))), (2, .d (.sl (a2.map (cL (cI .u8))))), (3, .d (.sl (a3.map (cL cB)))), (11, .ptr 53 0 0), (13, .mref 80), (14, .ref 109 0 l293.length), (17, .d (.lit (.int .i64 r809))), (18, .d (.lit (.bool v811))), (21, .d (.sl (r931.map cB))), (22, .d (.lit (.bool (r932 == 2)))), (81, .d (.sl (a1.map (cL (cI .i64))))), (82, .d (.lit (.int .i64 (a1.length : Int)))), (83, .d (.lit (.int .i64 v294))), (137, .d (.lit (.bool (r932 == 2))))] [(53, some (.box [.ref 6060 0 l290.length, .ref 6061 0 l291.length])), (80, some (.mp (.int .i64) (encM MKey.ik (vO (cI .u8)) m292))), (109, some (.arr 38 2 (l293.map cS66))), (6060, some (.arr 30 1 (l290.map (cL (cI .u8))))), (6061, some (.arr 66 2 (l291.map cS66)))]) Sub.tt ?_
                refine Chain.nil ?_
                refine AW.lastN (fun ((l936, l937, v938) : ((List (List Int)) × (List S66) × Bool)) => mk 219 [] [(0, .d (.lit (.int .i64 a0))), (2, .d (.sl (a2.map (cL (cI .u8))))), (3, .d (.sl (a3.map (cL cB)))), (11, .ptr 53 0 0), (13, .mref 80), (14, .ref 109 0 l293.length), (17, .d (.lit (.int .i64 r809))), (18, .d (.lit (.bool v811))), (21, .d (.sl (r931.map cB))), (22, .d (.lit (.bool v938))), (81, .d (.sl (a1.map (cL (cI .i64))))), (82, .d (.lit (.int .i64 (a1.length : Int)))), (83, .d (.lit (.int .i64 v294)))] [(53, some (.box [.ref 6060 0 l936.length, .ref 6061 0 l937.length])), (80, some (.mp (.int .i64) (encM MKey.ik (vO (cI .u8)) m292))), (109, some (.arr 38 2 (l293.map cS66))), (6060, some (.arr 30 1 (l936.map (cL (cI .u8))))), (6061, some (.arr 66 2 (l937.map cS66)))]) h ?_ ?_ <;> clear h
                ·intro o h
                 replace h := isome h; rcases h with ⟨c939, h⟩ | ⟨c939, h⟩
                 ·have c939_ : (r932 == 2) = true := c939
                  refine AW.condT (b := (r932 == 2)) rfl c939_ ?_
                  refine AW.sub (Sub.bool 22 (b := (r932 == 2)) rfl c939_) ?_
                  refine AW.sub (Sub.bool 137 (b := (r932 == 2)) rfl c939_) ?_
                  refine AW.sub (S' := mk 219 [] [(0, .d (.lit (.int .i64 a0))), (2, .d (.sl (a2.map (cL (cI .u8))))), (3, .d (.sl (a3.map (cL cB)))), (11, .ptr 53 0 0), (13, .mref 80), (14, .ref 109 0 l293.length), (17, .d (.lit (.int .i64 r809))), (18, .d (.lit (.bool v811))), (21, .d (.sl (r931.map cB))), (22, .d (.lit (.bool true))), (81, .d (.sl (a1.map (cL (cI .i64))))), (82, .d (.lit (.int .i64 (a1.length : Int)))), (83, .d (.lit (.int .i64 v294))), (137, .d (.lit (.bool true)))] [(53, some (.box [.ref 6060 0 l290.length, .ref 6061 0 l291.length])), (80, some (.mp (.int .i64) (encM MKey.ik (vO (cI .u8)) m292))), (109, some (.arr 38 2 (l293.map cS66))), (6060, some (.arr 30 1 (l290.map (cL (cI .u8))))), (6061, some (.arr 66 2 (l291.map cS66)))]) (by simp; exact Sub.table (by simp) (by simp)) ?_
                  refine AW.region ?_
                  refine Chain.runK [] 1 fun K hK => ?_; simp; refine hK _ _ ?_; clear hK K
                  refine Chain.sub (S' := mk 219 [] [(0, .d (.lit (.int .i64 a0))), (2, .d (.sl (a2.map (cL (cI .u8))))), (3, .d (.sl (a3.map (cL cB)))), (11, .ptr 53 0 0), (13, .mref 80), (14, .ref 109 0 l293.length), (17, .d (.lit (.int .i64 r809))), (18, .d (.lit (.bool v811))), (21, .d (.sl (r931.map cB))), (22, .d (.lit (.bool true))), (81, .d (.sl (a1.map (cL (cI .i64))))), (82, .d (.lit (.int .i64 (a1.length : Int)))), (83, .d (.lit (.int .i64 v294))), (138, .ptr 53 0 0)] [(53, some (.box [.ref 6060 0 l290.length, .ref 6061 0 l291.length])), (80, some (.mp (.int .i64) (encM MKey.ik (vO (cI .u8)) m292))), (109, some (.arr 38 2 (l293.map cS66))), (6060, some (.arr 30 1 (l290.map (cL (cI .u8))))), (6061, some (.arr 66 2 (l291.map cS66)))]) Sub.tt ?_
                  replace h := bsome h; obtain ⟨r940, hr940, h⟩ := h
                  refine Chain.callF (p12 N (S64.mk l290 l291) r940 hr940) [(53, 1000), (6060, 25000), (6061, 25001)] [53] [(1000, 53), (25000, 6060), (25001, 6061)] [(53, (.box [.ref 6060 0 r940.durable.length, .ref 6061 0 r940.pending.length])), (6060, (.arr 30 1 (r940.durable.map (cL (cI .u8))))), (6061, (.arr 66 2 (r940.pending.map cS66)))] (.tup []) (by simp) rfl (by simp <;> rfl) (by simp) (by simp) (by simp) (by simp) (by simp) ent12 (by simp) (by simp) (by simp) (by simp) (by simp) (by simp) ?_
                  refine Chain.sub (S' := mk 219 [] [(0, .d (.lit (.int .i64 a0))), (2, .d (.sl (a2.map (cL (cI .u8))))), (3, .d (.sl (a3.map (cL cB)))), (11, .ptr 53 0 0), (13, .mref 80), (14, .ref 109 0 l293.length), (17, .d (.lit (.int .i64 r809))), (18, .d (.lit (.bool v811))), (21, .d (.sl (r931.map cB))), (22, .d (.lit (.bool true))), (81, .d (.sl (a1.map (cL (cI .i64))))), (82, .d (.lit (.int .i64 (a1.length : Int)))), (83, .d (.lit (.int .i64 v294))), (138, .ptr 53 0 0), (139, .tup [])] [(53, some (.box [.ref 6060 0 r940.durable.length, .ref 6061 0 r940.pending.length])), (80, some (.mp (.int .i64) (encM MKey.ik (vO (cI .u8)) m292))), (109, some (.arr 38 2 (l293.map cS66))), (6060, some (.arr 30 1 (r940.durable.map (cL (cI .u8))))), (6061, some (.arr 66 2 (r940.pending.map cS66)))]) (by simp; exact Sub.table (by simp) (by simp)) ?_
                  refine Chain.nil ?_
                  cases h
                  refine PostN.next ?_
                  exact Sub.tt
                 ·have c939_ : (r932 == 2) = false := Bool.eq_false_iff.2 c939
                  refine AW.condF (b := (r932 == 2)) rfl c939_ ?_
                  refine AW.sub (Sub.bool 22 (b := (r932 == 2)) rfl c939_) ?_
                  refine AW.sub (Sub.bool 137 (b := (r932 == 2)) rfl c939_) ?_
                  refine AW.sub (S' := mk 219 [] [(0, .d (.lit (.int .i64 a0))), (2, .d (.sl (a2.map (cL (cI .u8))))), (3, .d (.sl (a3.map (cL cB)))), (11, .ptr 53 0 0), (13, .mref 80), (14, .ref 109 0 l293.length), (17, .d (.lit (.int .i64 r809))), (18, .d (.lit (.bool v811))), (21, .d (.sl (r931.map cB))), (22, .d (.lit (.bool false))), (81, .d (.sl (a1.map (cL (cI .i64))))), (82, .d (.lit (.int .i64 (a1.length : Int)))), (83, .d (.lit (.int .i64 v294))), (137, .d (.lit (.bool false)))] [(53, some (.box [.ref 6060 0 l290.length, .ref 6061 0 l291.length])), (80, some (.mp (.int .i64) (encM MKey.ik (vO (cI .u8)) m292))), (109, some (.arr 38 2 (l293.map cS66))), (6060, some (.arr 30 1 (l290.map (cL (cI .u8))))), (6061, some (.arr 66 2 (l291.map cS66)))]) (by simp; exact Sub.table (by simp) (by simp)) ?_
                  refine AW.region ?_
                  refine Chain.runK [] 2 fun K hK => ?_; simp; refine hK _ _ ?_; clear hK K
                  refine Chain.sub (S' := mk 219 [] [(0, .d (.lit (.int .i64 a0))), (2, .d (.sl (a2.map (cL (cI .u8))))), (3, .d (.sl (a3.map (cL cB)))), (11, .ptr 53 0 0), (13, .mref 80), (14, .ref 109 0 l293.length), (17, .d (.lit (.int .i64 r809))), (18, .d (.lit (.bool v811))), (21, .d (.sl (r931.map cB))), (22, .d (.lit (.bool false))), (81, .d (.sl (a1.map (cL (cI .i64))))), (82, .d (.lit (.int .i64 (a1.length : Int)))), (83, .d (.lit (.int .i64 v294))), (140, .ptr 53 0 0), (141, .d (.sl (r931.map cB)))] [(53, some (.box [.ref 6060 0 l290.length, .ref 6061 0 l291.length])), (80, some (.mp (.int .i64) (encM MKey.ik (vO (cI .u8)) m292))), (109, some (.arr 38 2 (l293.map cS66))), (6060, some (.arr 30 1 (l290.map (cL (cI .u8))))), (6061, some (.arr 66 2 (l291.map cS66)))]) Sub.tt ?_
                  replace h := bsome h; obtain ⟨r941, hr941, h⟩ := h
                  refine Chain.callF (p13 N (S64.mk l290 l291) r931 r941 hr941) [(53, 1000), (6060, 25000), (6061, 25001)] [53] [(1000, 53), (25000, 6060), (25001, 6061)] [(53, (.box [.ref 6060 0 r941.durable.length, .ref 6061 0 r941.pending.length])), (6060, (.arr 30 1 (r941.durable.map (cL (cI .u8))))), (6061, (.arr 66 2 (r941.pending.map cS66)))] (.tup []) (by simp) rfl (by simp <;> rfl) (by simp) (by simp) (by simp) (by simp) (by simp) ent13 (by simp) (by simp) (by simp) (by simp) (by simp) (by simp) ?_
                  refine Chain.sub (S' := mk 219 [] [(0, .d (.lit (.int .i64 a0))), (2, .d (.sl (a2.map (cL (cI .u8))))), (3, .d (.sl (a3.map (cL cB)))), (11, .ptr 53 0 0), (13, .mref 80), (14, .ref 109 0 l293.length), (17, .d (.lit (.int .i64 r809))), (18, .d (.lit (.bool v811))), (21, .d (.sl (r931.map cB))), (22, .d (.lit (.bool false))), (81, .d (.sl (a1.map (cL (cI .i64))))), (82, .d (.lit (.int .i64 (a1.length : Int)))), (83, .d (.lit (.int .i64 v294))), (140, .ptr 53 0 0), (141, .d (.sl (r931.map cB))), (142, .tup [])] [(53, some (.box [.ref 6060 0 r941.durable.length, .ref 6061 0 r941.pending.length])), (80, some (.mp (.int .i64) (encM MKey.ik (vO (cI .u8)) m292))), (109, some (.arr 38 2 (l293.map cS66))), (6060, some (.arr 30 1 (r941.durable.map (cL (cI .u8))))), (6061, some (.arr 66 2 (r941.pending.map cS66)))]) (by simp; exact Sub.table (by simp) (by simp)) ?_
                  refine Chain.nil ?_
                  cases h
                  refine PostN.next ?_
                  exact Sub.tt
                ·rintro ⟨l936, l937, v938⟩ h
                 dsimp only at h ⊢
                 refine thenQ_normal ?_
                 refine AW.seq ?_
                 refine AW.seqR ?_
                 refine Chain.runK [] 3 fun K hK => ?_; simp; refine hK _ _ ?_; clear hK K
                 refine Chain.sub (S' := mk 219 [] [(0, .d (.lit (.int .i64 a0))), (2, .d (.sl (a2.map (cL (cI .u8))))), (3, .d (.sl (a3.map (cL cB)))), (11, .ptr 53 0 0), (13, .mref 80), (17, .d (.lit (.int .i64 r809))), (18, .d (.lit (.bool v811))), (21, .d (.sl (r931.map cB))), (22, .d (.lit (.bool v938))), (81, .d (.sl (a1.map (cL (cI .i64))))), (82, .d (.lit (.int .i64 (a1.length : Int)))), (83, .d (.lit (.int .i64 v294))), (143, .ref 109 0 l293.length), (144, .d (.lit (.int .i64 (l293.length : Int)))), (145, .d (.lit (.int .i64 0)))] [(53, some (.box [.ref 6060 0 l936.length, .ref 6061 0 l937.length])), (80, some (.mp (.int .i64) (encM MKey.ik (vO (cI .u8)) m292))), (109, some (.arr 38 2 (l293.map cS66))), (6060, some (.arr 30 1 (l936.map (cL (cI .u8))))), (6061, some (.arr 66 2 (l937.map cS66)))]) Sub.tt ?_
                 refine Chain.nil ?_
                 refine AW.lastN (fun (m989 : List (Int × (List Int))) => mk 219 [] [(0, .d (.lit (.int .i64 a0))), (2, .d (.sl (a2.map (cL (cI .u8))))), (3, .d (.sl (a3.map (cL cB)))), (11, .ptr 53 0 0), (13, .mref 80), (17, .d (.lit (.int .i64 r809))), (18, .d (.lit (.bool v811))), (81, .d (.sl (a1.map (cL (cI .i64))))), (82, .d (.lit (.int .i64 (a1.length : Int)))), (83, .d (.lit (.int .i64 v294)))] [(53, some (.box [.ref 6060 0 l936.length, .ref 6061 0 l937.length])), (80, some (.mp (.int .i64) (encM MKey.ik (vO (cI .u8)) m989))), (6060, some (.arr 30 1 (l936.map (cL (cI .u8))))), (6061, some (.arr 66 2 (l937.map cS66)))]) h ?_ ?_ <;> clear h
                 ·intro o h
                  refine AW.block ?_
                  refine AW.iter (fun ((m955, v956, v957) : ((List (Int × (List Int))) × Bool × Int)) => mk 219 [] [(0, .d (.lit (.int .i64 a0))), (2, .d (.sl (a2.map (cL (cI .u8))))), (3, .d (.sl (a3.map (cL cB)))), (11, .ptr 53 0 0), (13, .mref 80), (17, .d (.lit (.int .i64 r809))), (18, .d (.lit (.bool v811))), (21, .d (.sl (r931.map cB))), (22, .d (.lit (.bool v956))), (81, .d (.sl (a1.map (cL (cI .i64))))), (82, .d (.lit (.int .i64 (a1.length : Int)))), (83, .d (.lit (.int .i64 v294))), (143, .ref 109 0 l293.length), (144, .d (.lit (.int .i64 (l293.length : Int)))), (145, .d (.lit (.int .i64 v957)))] [(53, some (.box [.ref 6060 0 l936.length, .ref 6061 0 l937.length])), (80, some (.mp (.int .i64) (encM MKey.ik (vO (cI .u8)) m955))), (109, some (.arr 38 2 (l293.map cS66))), (6060, some (.arr 30 1 (l936.map (cL (cI .u8))))), (6061, some (.arr 66 2 (l937.map cS66)))]) h Sub.tt ?_
                  clear h
                  rintro ⟨m955, v956, v957⟩ x h
                  dsimp only at h ⊢
                  refine AW.seqR ?_
                  refine Chain.runK [] 1 fun K hK => ?_; simp; refine hK _ _ ?_; clear hK K
                  refine Chain.sub (S' := mk 219 [] [(0, .d (.lit (.int .i64 a0))), (2, .d (.sl (a2.map (cL (cI .u8))))), (3, .d (.sl (a3.map (cL cB)))), (11, .ptr 53 0 0), (13, .mref 80), (17, .d (.lit (.int .i64 r809))), (18, .d (.lit (.bool v811))), (21, .d (.sl (r931.map cB))), (22, .d (.lit (.bool v956))), (81, .d (.sl (a1.map (cL (cI .i64))))), (82, .d (.lit (.int .i64 (a1.length : Int)))), (83, .d (.lit (.int .i64 v294))), (143, .ref 109 0 l293.length), (144, .d (.lit (.int .i64 (l293.length : Int)))), (145, .d (.lit (.int .i64 v957))), (146, .d (.lit (.bool (decide (v957 < (l293.length : Int))))))] [(53, some (.box [.ref 6060 0 l936.length, .ref 6061 0 l937.length])), (80, some (.mp (.int .i64) (encM MKey.ik (vO (cI .u8)) m955))), (109, some (.arr 38 2 (l293.map cS66))), (6060, some (.arr 30 1 (l936.map (cL (cI .u8))))), (6061, some (.arr 66 2 (l937.map cS66)))]) Sub.tt ?_
                  refine Chain.nil ?_
                  refine AW.seq ?_
                  replace h := isome h; rcases h with ⟨c990, h⟩ | ⟨c990, h⟩
                  ·have c990_ : decide (v957 < (l293.length : Int)) = true := decide_eq_true c990
                   refine AW.condT (b := decide (v957 < (l293.length : Int))) rfl c990_ ?_
                   refine AW.sub (Sub.bool 146 (b := decide (v957 < (l293.length : Int))) rfl c990_) ?_
                   refine AW.sub (S' := mk 219 [] [(0, .d (.lit (.int .i64 a0))), (2, .d (.sl (a2.map (cL (cI .u8))))), (3, .d (.sl (a3.map (cL cB)))), (11, .ptr 53 0 0), (13, .mref 80), (17, .d (.lit (.int .i64 r809))), (18, .d (.lit (.bool v811))), (21, .d (.sl (r931.map cB))), (22, .d (.lit (.bool v956))), (81, .d (.sl (a1.map (cL (cI .i64))))), (82, .d (.lit (.int .i64 (a1.length : Int)))), (83, .d (.lit (.int .i64 v294))), (143, .ref 109 0 l293.length), (144, .d (.lit (.int .i64 (l293.length : Int)))), (145, .d (.lit (.int .i64 v957))), (146, .d (.lit (.bool true)))] [(53, some (.box [.ref 6060 0 l936.length, .ref 6061 0 l937.length])), (80, some (.mp (.int .i64) (encM MKey.ik (vO (cI .u8)) m955))), (109, some (.arr 38 2 (l293.map cS66))), (6060, some (.arr 30 1 (l936.map (cL (cI .u8))))), (6061, some (.arr 66 2 (l937.map cS66)))]) (by simp; exact Sub.table (by simp) (by simp)) ?_
                   refine AW.skip ?_
                   refine thenQ_normal ?_
                   refine AW.seq ?_
                   refine AW.block ?_
                   refine AW.seqR ?_
                   replace h := bsome h; obtain ⟨x991, hx991, h⟩ := h
                   obtain ⟨k992, hx991k, hx991, hx991a, hx991b⟩ := idx_some hx991
                   refine Chain.runK [] 6 fun K hK => ?_; simp [hx991, hx991k, hx991a, hx991b]; refine hK _ _ ?_; clear hK K
                   refine Chain.sub (S' := mk 219 [] [(0, .d (.lit (.int .i64 a0))), (2, .d (.sl (a2.map (cL (cI .u8))))), (3, .d (.sl (a3.map (cL cB)))), (11, .ptr 53 0 0), (13, .mref 80), (17, .d (.lit (.int .i64 r809))), (18, .d (.lit (.bool v811))), (21, .d (.sl (r931.map cB))), (22, .d (.lit (.bool v956))), (23, .d (.lit (.int .i64 v957))), (24, .ptr 24 0 0), (81, .d (.sl (a1.map (cL (cI .i64))))), (82, .d (.lit (.int .i64 (a1.length : Int)))), (83, .d (.lit (.int .i64 v294))), (143, .ref 109 0 l293.length), (144, .d (.lit (.int .i64 (l293.length : Int)))), (145, .d (.lit (.int .i64 v957)))] [(24, some (.box [.d (.lit (.int .i64 x991.sector)), .d (.sl (x991.data.map (cI .u8)))])), (53, some (.box [.ref 6060 0 l936.length, .ref 6061 0 l937.length])), (80, some (.mp (.int .i64) (encM MKey.ik (vO (cI .u8)) m955))), (109, some (.arr 38 2 (l293.map cS66))), (6060, some (.arr 30 1 (l936.map (cL (cI .u8))))), (6061, some (.arr 66 2 (l937.map cS66)))]) Sub.tt ?_
                   refine Chain.nil ?_
                   replace h := bsome h; obtain ⟨⟨v996, v997⟩, hj, h⟩ := h
                   dsimp only at h
                   refine AW.cutR (mk 219 [] [(0, .d (.lit (.int .i64 a0))), (2, .d (.sl (a2.map (cL (cI .u8))))), (3, .d (.sl (a3.map (cL cB)))), (11, .ptr 53 0 0), (13, .mref 80), (17, .d (.lit (.int .i64 r809))), (18, .d (.lit (.bool v811))), (21, .d (.sl (r931.map cB))), (22, .d (.lit (.bool v996))), (24, .ptr 24 0 0), (81, .d (.sl (a1.map (cL (cI .i64))))), (82, .d (.lit (.int .i64 (a1.length : Int)))), (83, .d (.lit (.int .i64 v294))), (143, .ref 109 0 l293.length), (144, .d (.lit (.int .i64 (l293.length : Int)))), (145, .d (.lit (.int .i64 v957))), (162, .d (.lit (.bool v997)))] [(24, some (.box [.d (.lit (.int .i64 x991.sector)), .d (.sl (x991.data.map (cI .u8)))])), (53, some (.box [.ref 6060 0 l936.length, .ref 6061 0 l937.length])), (80, some (.mp (.int .i64) (encM MKey.ik (vO (cI .u8)) m955))), (109, some (.arr 38 2 (l293.map cS66))), (6060, some (.arr 30 1 (l936.map (cL (cI .u8))))), (6061, some (.arr 66 2 (l937.map cS66)))]) ?_ ?_
                   ·clear h; have h := hj; clear hj
                    refine Chain.runK [] 2 fun K hK => ?_; simp; refine hK _ _ ?_; clear hK K
                    refine Chain.sub (S' := mk 219 [] [(0, .d (.lit (.int .i64 a0))), (2, .d (.sl (a2.map (cL (cI .u8))))), (3, .d (.sl (a3.map (cL cB)))), (11, .ptr 53 0 0), (13, .mref 80), (17, .d (.lit (.int .i64 r809))), (18, .d (.lit (.bool v811))), (21, .d (.sl (r931.map cB))), (22, .d (.lit (.bool v956))), (23, .d (.lit (.int .i64 v957))), (24, .ptr 24 0 0), (81, .d (.sl (a1.map (cL (cI .i64))))), (82, .d (.lit (.int .i64 (a1.length : Int)))), (83, .d (.lit (.int .i64 v294))), (143, .ref 109 0 l293.length), (144, .d (.lit (.int .i64 (l293.length : Int)))), (145, .d (.lit (.int .i64 v957))), (151, .d (.lit (.bool v956)))] [(24, some (.box [.d (.lit (.int .i64 x991.sector)), .d (.sl (x991.data.map (cI .u8)))])), (53, some (.box [.ref 6060 0 l936.length, .ref 6061 0 l937.length])), (80, some (.mp (.int .i64) (encM MKey.ik (vO (cI .u8)) m955))), (109, some (.arr 38 2 (l293.map cS66))), (6060, some (.arr 30 1 (l936.map (cL (cI .u8))))), (6061, some (.arr 66 2 (l937.map cS66)))]) Sub.tt ?_
                    replace h := isome h; rcases h with ⟨c998, h⟩ | ⟨c998, h⟩
                    ·have c998_ : v956 = true := c998
                     refine Chain.sub (Sub.bool 22 (b := v956) rfl c998_) ?_
                     refine Chain.sub (Sub.bool 151 (b := v956) rfl c998_) ?_
                     refine Chain.sub (S' := mk 219 [] [(0, .d (.lit (.int .i64 a0))), (2, .d (.sl (a2.map (cL (cI .u8))))), (3, .d (.sl (a3.map (cL cB)))), (11, .ptr 53 0 0), (13, .mref 80), (17, .d (.lit (.int .i64 r809))), (18, .d (.lit (.bool v811))), (21, .d (.sl (r931.map cB))), (22, .d (.lit (.bool true))), (23, .d (.lit (.int .i64 v957))), (24, .ptr 24 0 0), (81, .d (.sl (a1.map (cL (cI .i64))))), (82, .d (.lit (.int .i64 (a1.length : Int)))), (83, .d (.lit (.int .i64 v294))), (143, .ref 109 0 l293.length), (144, .d (.lit (.int .i64 (l293.length : Int)))), (145, .d (.lit (.int .i64 v957))), (151, .d (.lit (.bool true)))] [(24, some (.box [.d (.lit (.int .i64 x991.sector)), .d (.sl (x991.data.map (cI .u8)))])), (53, some (.box [.ref 6060 0 l936.length, .ref 6061 0 l937.length])), (80, some (.mp (.int .i64) (encM MKey.ik (vO (cI .u8)) m955))), (109, some (.arr 38 2 (l293.map cS66))), (6060, some (.arr 30 1 (l936.map (cL (cI .u8))))), (6061, some (.arr 66 2 (l937.map cS66)))]) (by simp; exact Sub.table (by simp) (by simp)) ?_
                     refine Chain.runK [] 11 fun K hK => ?_; simp; refine hK _ _ ?_; clear hK K
                     refine Chain.sub (S' := mk 219 [] [(0, .d (.lit (.int .i64 a0))), (2, .d (.sl (a2.map (cL (cI .u8))))), (3, .d (.sl (a3.map (cL cB)))), (11, .ptr 53 0 0), (13, .mref 80), (17, .d (.lit (.int .i64 r809))), (18, .d (.lit (.bool v811))), (21, .d (.sl (r931.map cB))), (22, .d (.lit (.bool true))), (24, .ptr 24 0 0), (81, .d (.sl (a1.map (cL (cI .i64))))), (82, .d (.lit (.int .i64 (a1.length : Int)))), (83, .d (.lit (.int .i64 v294))), (143, .ref 109 0 l293.length), (144, .d (.lit (.int .i64 (l293.length : Int)))), (145, .d (.lit (.int .i64 v957))), (152, .tup []), (153, .tup []), (154, .tup []), (155, .tup []), (156, .tup []), (157, .tup []), (158, .tup []), (159, .tup []), (160, .tup []), (161, .tup []), (162, .d (.lit (.bool true)))] [(24, some (.box [.d (.lit (.int .i64 x991.sector)), .d (.sl (x991.data.map (cI .u8)))])), (53, some (.box [.ref 6060 0 l936.length, .ref 6061 0 l937.length])), (80, some (.mp (.int .i64) (encM MKey.ik (vO (cI .u8)) m955))), (109, some (.arr 38 2 (l293.map cS66))), (6060, some (.arr 30 1 (l936.map (cL (cI .u8))))), (6061, some (.arr 66 2 (l937.map cS66)))]) Sub.tt ?_
                     cases h
                     exact Chain.nil Sub.tt
                    ·have c998_ : v956 = false := Bool.eq_false_iff.2 c998
                     refine Chain.sub (Sub.bool 22 (b := v956) rfl c998_) ?_
                     refine Chain.sub (Sub.bool 151 (b := v956) rfl c998_) ?_
                     refine Chain.sub (S' := mk 219 [] [(0, .d (.lit (.int .i64 a0))), (2, .d (.sl (a2.map (cL (cI .u8))))), (3, .d (.sl (a3.map (cL cB)))), (11, .ptr 53 0 0), (13, .mref 80), (17, .d (.lit (.int .i64 r809))), (18, .d (.lit (.bool v811))), (21, .d (.sl (r931.map cB))), (22, .d (.lit (.bool false))), (23, .d (.lit (.int .i64 v957))), (24, .ptr 24 0 0), (81, .d (.sl (a1.map (cL (cI .i64))))), (82, .d (.lit (.int .i64 (a1.length : Int)))), (83, .d (.lit (.int .i64 v294))), (143, .ref 109 0 l293.length), (144, .d (.lit (.int .i64 (l293.length : Int)))), (145, .d (.lit (.int .i64 v957))), (151, .d (.lit (.bool false)))] [(24, some (.box [.d (.lit (.int .i64 x991.sector)), .d (.sl (x991.data.map (cI .u8)))])), (53, some (.box [.ref 6060 0 l936.length, .ref 6061 0 l937.length])), (80, some (.mp (.int .i64) (encM MKey.ik (vO (cI .u8)) m955))), (109, some (.arr 38 2 (l293.map cS66))), (6060, some (.arr 30 1 (l936.map (cL (cI .u8))))), (6061, some (.arr 66 2 (l937.map cS66)))]) (by simp; exact Sub.table (by simp) (by simp)) ?_
                     refine Chain.runK [] 5 fun K hK => ?_; simp; refine hK _ _ ?_; clear hK K
                     refine Chain.sub (S' := mk 219 [] [(0, .d (.lit (.int .i64 a0))), (2, .d (.sl (a2.map (cL (cI .u8))))), (3, .d (.sl (a3.map (cL cB)))), (11, .ptr 53 0 0), (13, .mref 80), (17, .d (.lit (.int .i64 r809))), (18, .d (.lit (.bool v811))), (21, .d (.sl (r931.map cB))), (22, .d (.lit (.bool false))), (23, .d (.lit (.int .i64 v957))), (24, .ptr 24 0 0), (81, .d (.sl (a1.map (cL (cI .i64))))), (82, .d (.lit (.int .i64 (a1.length : Int)))), (83, .d (.lit (.int .i64 v294))), (143, .ref 109 0 l293.length), (144, .d (.lit (.int .i64 (l293.length : Int)))), (145, .d (.lit (.int .i64 v957))), (151, .d (.lit (.bool false))), (152, .d (.lit (.int .i64 v957))), (153, .d (.sl (r931.map cB))), (154, .d (.lit (.int .i64 (r931.length : Int)))), (155, .d (.lit (.bool (decide (v957 < (r931.length : Int)))))), (156, .d (.lit (.bool (decide (v957 < (r931.length : Int))))))] [(24, some (.box [.d (.lit (.int .i64 x991.sector)), .d (.sl (x991.data.map (cI .u8)))])), (53, some (.box [.ref 6060 0 l936.length, .ref 6061 0 l937.length])), (80, some (.mp (.int .i64) (encM MKey.ik (vO (cI .u8)) m955))), (109, some (.arr 38 2 (l293.map cS66))), (6060, some (.arr 30 1 (l936.map (cL (cI .u8))))), (6061, some (.arr 66 2 (l937.map cS66)))]) Sub.tt ?_
                     replace h := isome h; rcases h with ⟨c999, h⟩ | ⟨c999, h⟩
                     ·have c999_ : decide (v957 < (r931.length : Int)) = true := decide_eq_true c999
                      refine Chain.sub (Sub.bool 155 (b := decide (v957 < (r931.length : Int))) rfl c999_) ?_
                      refine Chain.sub (Sub.bool 156 (b := decide (v957 < (r931.length : Int))) rfl c999_) ?_
                      refine Chain.sub (S' := mk 219 [] [(0, .d (.lit (.int .i64 a0))), (2, .d (.sl (a2.map (cL (cI .u8))))), (3, .d (.sl (a3.map (cL cB)))), (11, .ptr 53 0 0), (13, .mref 80), (17, .d (.lit (.int .i64 r809))), (18, .d (.lit (.bool v811))), (21, .d (.sl (r931.map cB))), (22, .d (.lit (.bool false))), (23, .d (.lit (.int .i64 v957))), (24, .ptr 24 0 0), (81, .d (.sl (a1.map (cL (cI .i64))))), (82, .d (.lit (.int .i64 (a1.length : Int)))), (83, .d (.lit (.int .i64 v294))), (143, .ref 109 0 l293.length), (144, .d (.lit (.int .i64 (l293.length : Int)))), (145, .d (.lit (.int .i64 v957))), (151, .d (.lit (.bool false))), (152, .d (.lit (.int .i64 v957))), (153, .d (.sl (r931.map cB))), (154, .d (.lit (.int .i64 (r931.length : Int)))), (155, .d (.lit (.bool true))), (156, .d (.lit (.bool true)))] [(24, some (.box [.d (.lit (.int .i64 x991.sector)), .d (.sl (x991.data.map (cI .u8)))])), (53, some (.box [.ref 6060 0 l936.length, .ref 6061 0 l937.length])), (80, some (.mp (.int .i64) (encM MKey.ik (vO (cI .u8)) m955))), (109, some (.arr 38 2 (l293.map cS66))), (6060, some (.arr 30 1 (l936.map (cL (cI .u8))))), (6061, some (.arr 66 2 (l937.map cS66)))]) (by simp; exact Sub.table (by simp) (by simp)) ?_
                      replace h := bsome h; obtain ⟨x1000, hx1000, h⟩ := h
                      obtain ⟨hx1000, hx1000a, hx1000b⟩ := idx_some2 hx1000 hx991k
                      refine Chain.runK [] 6 fun K hK => ?_; simp [hx1000, hx991k, hx1000a]; refine hK _ _ ?_; clear hK K
                      refine Chain.sub (S' := mk 219 [] [(0, .d (.lit (.int .i64 a0))), (2, .d (.sl (a2.map (cL (cI .u8))))), (3, .d (.sl (a3.map (cL cB)))), (11, .ptr 53 0 0), (13, .mref 80), (17, .d (.lit (.int .i64 r809))), (18, .d (.lit (.bool v811))), (21, .d (.sl (r931.map cB))), (22, .d (.lit (.bool false))), (24, .ptr 24 0 0), (81, .d (.sl (a1.map (cL (cI .i64))))), (82, .d (.lit (.int .i64 (a1.length : Int)))), (83, .d (.lit (.int .i64 v294))), (143, .ref 109 0 l293.length), (144, .d (.lit (.int .i64 (l293.length : Int)))), (145, .d (.lit (.int .i64 v957))), (152, .d (.lit (.int .i64 v957))), (153, .d (.sl (r931.map cB))), (154, .d (.lit (.int .i64 (r931.length : Int)))), (155, .d (.lit (.bool true))), (156, .d (.lit (.bool true))), (157, .d (.sl (r931.map cB))), (158, .d (.lit (.int .i64 v957))), (159, .d (.pim [.lit (.bool x1000)])), (160, .d (.lit (.bool x1000))), (161, .d (.lit (.bool x1000))), (162, .d (.lit (.bool x1000)))] [(24, some (.box [.d (.lit (.int .i64 x991.sector)), .d (.sl (x991.data.map (cI .u8)))])), (53, some (.box [.ref 6060 0 l936.length, .ref 6061 0 l937.length])), (80, some (.mp (.int .i64) (encM MKey.ik (vO (cI .u8)) m955))), (109, some (.arr 38 2 (l293.map cS66))), (6060, some (.arr 30 1 (l936.map (cL (cI .u8))))), (6061, some (.arr 66 2 (l937.map cS66)))]) Sub.tt ?_
                      cases h
                      exact Chain.nil Sub.tt
                     ·have c999_ : decide (v957 < (r931.length : Int)) = false := decide_eq_false c999
                      refine Chain.sub (Sub.bool 155 (b := decide (v957 < (r931.length : Int))) rfl c999_) ?_
                      refine Chain.sub (Sub.bool 156 (b := decide (v957 < (r931.length : Int))) rfl c999_) ?_
                      refine Chain.sub (S' := mk 219 [] [(0, .d (.lit (.int .i64 a0))), (2, .d (.sl (a2.map (cL (cI .u8))))), (3, .d (.sl (a3.map (cL cB)))), (11, .ptr 53 0 0), (13, .mref 80), (17, .d (.lit (.int .i64 r809))), (18, .d (.lit (.bool v811))), (21, .d (.sl (r931.map cB))), (22, .d (.lit (.bool false))), (23, .d (.lit (.int .i64 v957))), (24, .ptr 24 0 0), (81, .d (.sl (a1.map (cL (cI .i64))))), (82, .d (.lit (.int .i64 (a1.length : Int)))), (83, .d (.lit (.int .i64 v294))), (143, .ref 109 0 l293.length), (144, .d (.lit (.int .i64 (l293.length : Int)))), (145, .d (.lit (.int .i64 v957))), (151, .d (.lit (.bool false))), (152, .d (.lit (.int .i64 v957))), (153, .d (.sl (r931.map cB))), (154, .d (.lit (.int .i64 (r931.length : Int)))), (155, .d (.lit (.bool false))), (156, .d (.lit (.bool false)))] [(24, some (.box [.d (.lit (.int .i64 x991.sector)), .d (.sl (x991.data.map (cI .u8)))])), (53, some (.box [.ref 6060 0 l936.length, .ref 6061 0 l937.length])), (80, some (.mp (.int .i64) (encM MKey.ik (vO (cI .u8)) m955))), (109, some (.arr 38 2 (l293.map cS66))), (6060, some (.arr 30 1 (l936.map (cL (cI .u8))))), (6061, some (.arr 66 2 (l937.map cS66)))]) (by simp; exact Sub.table (by simp) (by simp)) ?_
                      refine Chain.runK [] 6 fun K hK => ?_; simp; refine hK _ _ ?_; clear hK K
                      refine Chain.sub (S' := mk 219 [] [(0, .d (.lit (.int .i64 a0))), (2, .d (.sl (a2.map (cL (cI .u8))))), (3, .d (.sl (a3.map (cL cB)))), (11, .ptr 53 0 0), (13, .mref 80), (17, .d (.lit (.int .i64 r809))), (18, .d (.lit (.bool v811))), (21, .d (.sl (r931.map cB))), (22, .d (.lit (.bool false))), (24, .ptr 24 0 0), (81, .d (.sl (a1.map (cL (cI .i64))))), (82, .d (.lit (.int .i64 (a1.length : Int)))), (83, .d (.lit (.int .i64 v294))), (143, .ref 109 0 l293.length), (144, .d (.lit (.int .i64 (l293.length : Int)))), (145, .d (.lit (.int .i64 v957))), (152, .d (.lit (.int .i64 v957))), (153, .d (.sl (r931.map cB))), (154, .d (.lit (.int .i64 (r931.length : Int)))), (155, .d (.lit (.bool false))), (156, .d (.lit (.bool false))), (157, .tup []), (158, .tup []), (159, .tup []), (160, .tup []), (161, .d (.lit (.bool false))), (162, .d (.lit (.bool false)))] [(24, some (.box [.d (.lit (.int .i64 x991.sector)), .d (.sl (x991.data.map (cI .u8)))])), (53, some (.box [.ref 6060 0 l936.length, .ref 6061 0 l937.length])), (80, some (.mp (.int .i64) (encM MKey.ik (vO (cI .u8)) m955))), (109, some (.arr 38 2 (l293.map cS66))), (6060, some (.arr 30 1 (l936.map (cL (cI .u8))))), (6061, some (.arr 66 2 (l937.map cS66)))]) Sub.tt ?_
                      cases h
                      exact Chain.nil Sub.tt
                   ·clear hj
                    replace h := isome h; rcases h with ⟨c1001, h⟩ | ⟨c1001, h⟩
                    ·have c1001_ : v997 = true := c1001
                     refine AW.condT (b := v997) rfl c1001_ ?_
                     refine AW.sub (Sub.bool 162 (b := v997) rfl c1001_) ?_
                     refine AW.sub (S' := mk 219 [] [(0, .d (.lit (.int .i64 a0))), (2, .d (.sl (a2.map (cL (cI .u8))))), (3, .d (.sl (a3.map (cL cB)))), (11, .ptr 53 0 0), (13, .mref 80), (17, .d (.lit (.int .i64 r809))), (18, .d (.lit (.bool v811))), (21, .d (.sl (r931.map cB))), (22, .d (.lit (.bool v996))), (24, .ptr 24 0 0), (81, .d (.sl (a1.map (cL (cI .i64))))), (82, .d (.lit (.int .i64 (a1.length : Int)))), (83, .d (.lit (.int .i64 v294))), (143, .ref 109 0 l293.length), (144, .d (.lit (.int .i64 (l293.length : Int)))), (145, .d (.lit (.int .i64 v957))), (162, .d (.lit (.bool true)))] [(24, some (.box [.d (.lit (.int .i64 x991.sector)), .d (.sl (x991.data.map (cI .u8)))])), (53, some (.box [.ref 6060 0 l936.length, .ref 6061 0 l937.length])), (80, some (.mp (.int .i64) (encM MKey.ik (vO (cI .u8)) m955))), (109, some (.arr 38 2 (l293.map cS66))), (6060, some (.arr 30 1 (l936.map (cL (cI .u8))))), (6061, some (.arr 66 2 (l937.map cS66)))]) (by simp; exact Sub.table (by simp) (by simp)) ?_
                     refine AW.region ?_
                     refine Chain.runK [] 5 fun K hK => ?_; simp; refine hK _ _ ?_; clear hK K
                     refine Chain.sub (S' := mk 219 [] [(0, .d (.lit (.int .i64 a0))), (2, .d (.sl (a2.map (cL (cI .u8))))), (3, .d (.sl (a3.map (cL cB)))), (11, .ptr 53 0 0), (13, .mref 80), (17, .d (.lit (.int .i64 r809))), (18, .d (.lit (.bool v811))), (21, .d (.sl (r931.map cB))), (22, .d (.lit (.bool v996))), (81, .d (.sl (a1.map (cL (cI .i64))))), (82, .d (.lit (.int .i64 (a1.length : Int)))), (83, .d (.lit (.int .i64 v294))), (143, .ref 109 0 l293.length), (144, .d (.lit (.int .i64 (l293.length : Int)))), (145, .d (.lit (.int .i64 v957))), (163, .mref 80), (165, .d (.lit (.int .i64 x991.sector))), (167, .d (.sl (x991.data.map (cI .u8))))] [(53, some (.box [.ref 6060 0 l936.length, .ref 6061 0 l937.length])), (80, some (.mp (.int .i64) (encM MKey.ik (vO (cI .u8)) m955))), (109, some (.arr 38 2 (l293.map cS66))), (6060, some (.arr 30 1 (l936.map (cL (cI .u8))))), (6061, some (.arr 66 2 (l937.map cS66)))]) Sub.tt ?_
                     refine Chain.msetE (vf := (vO (cI .u8))) ik_inj m955 x991.sector x991.data (by simp) (.inl rfl) ty32 rfl ty3 rfl rfl rfl rfl rfl rfl rfl ?_
                     refine Chain.sub (S' := mk 219 [] [(0, .d (.lit (.int .i64 a0))), (2, .d (.sl (a2.map (cL (cI .u8))))), (3, .d (.sl (a3.map (cL cB)))), (11, .ptr 53 0 0), (13, .mref 80), (17, .d (.lit (.int .i64 r809))), (18, .d (.lit (.bool v811))), (21, .d (.sl (r931.map cB))), (22, .d (.lit (.bool v996))), (81, .d (.sl (a1.map (cL (cI .i64))))), (82, .d (.lit (.int .i64 (a1.length : Int)))), (83, .d (.lit (.int .i64 v294))), (143, .ref 109 0 l293.length), (144, .d (.lit (.int .i64 (l293.length : Int)))), (145, .d (.lit (.int .i64 v957))), (163, .mref 80), (165, .d (.lit (.int .i64 x991.sector))), (167, .d (.sl (x991.data.map (cI .u8))))] [(53, some (.box [.ref 6060 0 l936.length, .ref 6061 0 l937.length])), (80, some (.mp (.int .i64) (encM MKey.ik (vO (cI .u8)) (mput m955 x991.sector x991.data)))), (109, some (.arr 38 2 (l293.map cS66))), (6060, some (.arr 30 1 (l936.map (cL (cI .u8))))), (6061, some (.arr 66 2 (l937.map cS66)))]) (by simp; exact Sub.table (by simp) (by simp)) ?_
                     refine Chain.nil ?_
                     refine blockQ.normal ?_
                     refine thenQ_normal ?_
                     refine AW.region ?_
                     replace h := bsome h; obtain ⟨v1002, hv1002, h⟩ := h
                     have hv1002 := chkI_some hv1002
                     refine Chain.runK [] 2 fun K hK => ?_; simp [hv1002]; refine hK _ _ ?_; clear hK K
                     refine Chain.sub (S' := mk 219 [] [(0, .d (.lit (.int .i64 a0))), (2, .d (.sl (a2.map (cL (cI .u8))))), (3, .d (.sl (a3.map (cL cB)))), (11, .ptr 53 0 0), (13, .mref 80), (17, .d (.lit (.int .i64 r809))), (18, .d (.lit (.bool v811))), (21, .d (.sl (r931.map cB))), (22, .d (.lit (.bool v996))), (81, .d (.sl (a1.map (cL (cI .i64))))), (82, .d (.lit (.int .i64 (a1.length : Int)))), (83, .d (.lit (.int .i64 v294))), (143, .ref 109 0 l293.length), (144, .d (.lit (.int .i64 (l293.length : Int)))), (145, .d (.lit (.int .i64 v1002)))] [(53, some (.box [.ref 6060 0 l936.length, .ref 6061 0 l937.length])), (80, some (.mp (.int .i64) (encM MKey.ik (vO (cI .u8)) (mput m955 x991.sector x991.data)))), (109, some (.arr 38 2 (l293.map cS66))), (6060, some (.arr 30 1 (l936.map (cL (cI .u8))))), (6061, some (.arr 66 2 (l937.map cS66)))]) Sub.tt ?_
                     refine Chain.nil ?_
                     cases h
                     refine PostI.next ?_
                     exact Sub.tt
                    ·have c1001_ : v997 = false := Bool.eq_false_iff.2 c1001
                     refine AW.condF (b := v997) rfl c1001_ ?_
                     refine AW.sub (Sub.bool 162 (b := v997) rfl c1001_) ?_
                     refine AW.sub (S' := mk 219 [] [(0, .d (.lit (.int .i64 a0))), (2, .d (.sl (a2.map (cL (cI .u8))))), (3, .d (.sl (a3.map (cL cB)))), (11, .ptr 53 0 0), (13, .mref 80), (17, .d (.lit (.int .i64 r809))), (18, .d (.lit (.bool v811))), (21, .d (.sl (r931.map cB))), (22, .d (.lit (.bool v996))), (24, .ptr 24 0 0), (81, .d (.sl (a1.map (cL (cI .i64))))), (82, .d (.lit (.int .i64 (a1.length : Int)))), (83, .d (.lit (.int .i64 v294))), (143, .ref 109 0 l293.length), (144, .d (.lit (.int .i64 (l293.length : Int)))), (145, .d (.lit (.int .i64 v957))), (162, .d (.lit (.bool false)))] [(24, some (.box [.d (.lit (.int .i64 x991.sector)), .d (.sl (x991.data.map (cI .u8)))])), (53, some (.box [.ref 6060 0 l936.length, .ref 6061 0 l937.length])), (80, some (.mp (.int .i64) (encM MKey.ik (vO (cI .u8)) m955))), (109, some (.arr 38 2 (l293.map cS66))), (6060, some (.arr 30 1 (l936.map (cL (cI .u8))))), (6061, some (.arr 66 2 (l937.map cS66)))]) (by simp; exact Sub.table (by simp) (by simp)) ?_
                     refine AW.skip ?_
                     refine blockQ.normal ?_
                     refine thenQ_normal ?_
                     refine AW.region ?_
                     replace h := bsome h; obtain ⟨v1003, hv1003, h⟩ := h
                     have hv1003 := chkI_some hv1003
                     refine Chain.runK [] 2 fun K hK => ?_; simp [hv1003]; refine hK _ _ ?_; clear hK K
                     refine Chain.sub (S' := mk 219 [] [(0, .d (.lit (.int .i64 a0))), (2, .d (.sl (a2.map (cL (cI .u8))))), (3, .d (.sl (a3.map (cL cB)))), (11, .ptr 53 0 0), (13, .mref 80), (17, .d (.lit (.int .i64 r809))), (18, .d (.lit (.bool v811))), (21, .d (.sl (r931.map cB))), (22, .d (.lit (.bool v996))), (81, .d (.sl (a1.map (cL (cI .i64))))), (82, .d (.lit (.int .i64 (a1.length : Int)))), (83, .d (.lit (.int .i64 v294))), (143, .ref 109 0 l293.length), (144, .d (.lit (.int .i64 (l293.length : Int)))), (145, .d (.lit (.int .i64 v1003)))] [(53, some (.box [.ref 6060 0 l936.length, .ref 6061 0 l937.length])), (80, some (.mp (.int .i64) (encM MKey.ik (vO (cI .u8)) m955))), (109, some (.arr 38 2 (l293.map cS66))), (6060, some (.arr 30 1 (l936.map (cL (cI .u8))))), (6061, some (.arr 66 2 (l937.map cS66)))]) Sub.tt ?_
                     refine Chain.nil ?_
                     cases h
                     refine PostI.next ?_
                     exact Sub.tt
                  ·have c990_ : decide (v957 < (l293.length : Int)) = false := decide_eq_false c990
                   refine AW.condF (b := decide (v957 < (l293.length : Int))) rfl c990_ ?_
                   refine AW.sub (Sub.bool 146 (b := decide (v957 < (l293.length : Int))) rfl c990_) ?_
                   refine AW.sub (S' := mk 219 [] [(0, .d (.lit (.int .i64 a0))), (2, .d (.sl (a2.map (cL (cI .u8))))), (3, .d (.sl (a3.map (cL cB)))), (11, .ptr 53 0 0), (13, .mref 80), (17, .d (.lit (.int .i64 r809))), (18, .d (.lit (.bool v811))), (21, .d (.sl (r931.map cB))), (22, .d (.lit (.bool v956))), (81, .d (.sl (a1.map (cL (cI .i64))))), (82, .d (.lit (.int .i64 (a1.length : Int)))), (83, .d (.lit (.int .i64 v294))), (143, .ref 109 0 l293.length), (144, .d (.lit (.int .i64 (l293.length : Int)))), (145, .d (.lit (.int .i64 v957))), (146, .d (.lit (.bool false)))] [(53, some (.box [.ref 6060 0 l936.length, .ref 6061 0 l937.length])), (80, some (.mp (.int .i64) (encM MKey.ik (vO (cI .u8)) m955))), (109, some (.arr 38 2 (l293.map cS66))), (6060, some (.arr 30 1 (l936.map (cL (cI .u8))))), (6061, some (.arr 66 2 (l937.map cS66)))]) (by simp; exact Sub.table (by simp) (by simp)) ?_
                   refine AW.exit ?_
                   cases h
                   refine thenQ_pass (by simp) ?_
                   refine PostI.out (by simp) ?_
                   rintro rfl
                   refine blockQ.hit ?_
                   refine PostN.next ?_
                   exact Sub.tt
                 ·rintro m989 h
                  refine thenQ_normal ?_
                  refine AW.region ?_
                  refine Chain.runK [] 1 fun K hK => ?_; simp; refine hK _ _ ?_; clear hK K
                  refine Chain.sub (S' := mk 219 [] [(0, .d (.lit (.int .i64 a0))), (2, .d (.sl (a2.map (cL (cI .u8))))), (3, .d (.sl (a3.map (cL cB)))), (11, .ptr 53 0 0), (13, .mref 80), (14, .d (.lit (.slice none 0 0))), (17, .d (.lit (.int .i64 r809))), (18, .d (.lit (.bool v811))), (81, .d (.sl (a1.map (cL (cI .i64))))), (82, .d (.lit (.int .i64 (a1.length : Int)))), (83, .d (.lit (.int .i64 v294)))] [(53, some (.box [.ref 6060 0 l936.length, .ref 6061 0 l937.length])), (80, some (.mp (.int .i64) (encM MKey.ik (vO (cI .u8)) m989))), (6060, some (.arr 30 1 (l936.map (cL (cI .u8))))), (6061, some (.arr 66 2 (l937.map cS66)))]) Sub.tt ?_
                  refine Chain.nil ?_
                  cases h
                  refine PostJ.next ?_
                  exact (Sub.trans (Sub.nilOwn (t := 14) (id := 109) (T := 38) (n := 2) rfl rfl (by decide)) (by simp; exact Sub.table (by simp) (by simp)))
               ·have c929_ : v927 = false := Bool.eq_false_iff.2 c929
                refine AW.condF (b := v927) rfl c929_ ?_
                refine AW.sub (Sub.bool 127 (b := v927) rfl c929_) ?_
                refine AW.sub (S' := mk 219 [] [(0, .d (.lit (.int .i64 a0))), (2, .d (.sl (a2.map (cL (cI .u8))))), (3, .d (.sl (a3.map (cL cB)))), (11, .ptr 53 0 0), (13, .mref 80), (14, .ref 109 0 l293.length), (16, .d (.sl (x807.map (cI .i64)))), (17, .d (.lit (.int .i64 r809))), (18, .d (.lit (.bool v811))), (81, .d (.sl (a1.map (cL (cI .i64))))), (82, .d (.lit (.int .i64 (a1.length : Int)))), (83, .d (.lit (.int .i64 v294))), (127, .d (.lit (.bool false)))] [(53, some (.box [.ref 6060 0 l290.length, .ref 6061 0 l291.length])), (80, some (.mp (.int .i64) (encM MKey.ik (vO (cI .u8)) m292))), (109, some (.arr 38 2 (l293.map cS66))), (6060, some (.arr 30 1 (l290.map (cL (cI .u8))))), (6061, some (.arr 66 2 (l291.map cS66)))]) (by simp; exact Sub.table (by simp) (by simp)) ?_
                refine AW.skip ?_
                cases h
                refine PostJ.next ?_
                exact Sub.tt
            ·rintro ⟨l907, l908, m909, l910⟩ h
             dsimp only at h ⊢
             refine blockQ.normal ?_
             refine thenQ_normal ?_
             refine AW.seqR ?_
             refine Chain.runK [] 2 fun K hK => ?_; simp; refine hK _ _ ?_; clear hK K
             refine Chain.sub (S' := mk 219 [] [(0, .d (.lit (.int .i64 a0))), (2, .d (.sl (a2.map (cL (cI .u8))))), (3, .d (.sl (a3.map (cL cB)))), (11, .ptr 53 0 0), (13, .mref 80), (14, .ref 109 0 l910.length), (17, .d (.lit (.int .i64 r809))), (18, .d (.lit (.bool v811))), (81, .d (.sl (a1.map (cL (cI .i64))))), (82, .d (.lit (.int .i64 (a1.length : Int)))), (83, .d (.lit (.int .i64 v294))), (170, .ptr 53 0 0), (171, .d (.lit (.int .i64 r809)))] [(53, some (.box [.ref 6060 0 l907.length, .ref 6061 0 l908.length])), (80, some (.mp (.int .i64) (encM MKey.ik (vO (cI .u8)) m909))), (109, some (.arr 38 2 (l910.map cS66))), (6060, some (.arr 30 1 (l907.map (cL (cI .u8))))), (6061, some (.arr 66 2 (l908.map cS66)))]) Sub.tt ?_
             replace h := bsome h; obtain ⟨r1004, hr1004, h⟩ := h
             refine Chain.callF (p14 N (S64.mk l907 l908) r809 r1004 hr1004) [(53, 1000), (6060, 25000), (6061, 25001)] [53] [(1000, 53), (25000, 6060), (25001, 6061)] [(53, (.box [.ref 6060 0 r1004.1.durable.length, .ref 6061 0 r1004.1.pending.length])), (6060, (.arr 30 1 (r1004.1.durable.map (cL (cI .u8))))), (6061, (.arr 66 2 (r1004.1.pending.map cS66)))] (.tup [.d (.sl (r1004.2.1.map (cI .u8))), .d (.lit (.int .i64 r1004.2.2))]) (by simp) rfl (by simp <;> rfl) (by simp) (by simp) (by simp) (by simp) (by simp) ent14 (by simp) (by simp) (by simp) (by simp) (by simp) (by simp) ?_
             refine Chain.sub (S' := mk 219 [] [(0, .d (.lit (.int .i64 a0))), (2, .d (.sl (a2.map (cL (cI .u8))))), (3, .d (.sl (a3.map (cL cB)))), (11, .ptr 53 0 0), (13, .mref 80), (14, .ref 109 0 l910.length), (17, .d (.lit (.int .i64 r809))), (18, .d (.lit (.bool v811))), (81, .d (.sl (a1.map (cL (cI .i64))))), (82, .d (.lit (.int .i64 (a1.length : Int)))), (83, .d (.lit (.int .i64 v294))), (170, .ptr 53 0 0), (171, .d (.lit (.int .i64 r809))), (172, .tup [.d (.sl (r1004.2.1.map (cI .u8))), .d (.lit (.int .i64 r1004.2.2))])] [(53, some (.box [.ref 6060 0 r1004.1.durable.length, .ref 6061 0 r1004.1.pending.length])), (80, some (.mp (.int .i64) (encM MKey.ik (vO (cI .u8)) m909))), (109, some (.arr 38 2 (l910.map cS66))), (6060, some (.arr 30 1 (r1004.1.durable.map (cL (cI .u8))))), (6061, some (.arr 66 2 (r1004.1.pending.map cS66)))]) (by simp; exact Sub.table (by simp) (by simp)) ?_
             refine Chain.runK [] 5 fun K hK => ?_; simp; refine hK _ _ ?_; clear hK K
             refine Chain.sub (S' := mk 219 [] [(0, .d (.lit (.int .i64 a0))), (2, .d (.sl (a2.map (cL (cI .u8))))), (3, .d (.sl (a3.map (cL cB)))), (11, .ptr 53 0 0), (13, .mref 80), (14, .ref 109 0 l910.length), (17, .d (.lit (.int .i64 r809))), (18, .d (.lit (.bool v811))), (25, .d (.sl (r1004.2.1.map (cI .u8)))), (26, .d (.lit (.int .i64 r1004.2.2))), (81, .d (.sl (a1.map (cL (cI .i64))))), (82, .d (.lit (.int .i64 (a1.length : Int)))), (83, .d (.lit (.int .i64 v294)))] [(53, some (.box [.ref 6060 0 r1004.1.durable.length, .ref 6061 0 r1004.1.pending.length])), (80, some (.mp (.int .i64) (encM MKey.ik (vO (cI .u8)) m909))), (109, some (.arr 38 2 (l910.map cS66))), (6060, some (.arr 30 1 (r1004.1.durable.map (cL (cI .u8))))), (6061, some (.arr 66 2 (r1004.1.pending.map cS66)))]) Sub.tt ?_
             refine Chain.nil ?_
             refine AW.seq ?_
             refine AW.seqR ?_
             refine Chain.runK [] 2 fun K hK => ?_; simp; refine hK _ _ ?_; clear hK K
             refine Chain.sub (S' := mk 219 [] [(0, .d (.lit (.int .i64 a0))), (2, .d (.sl (a2.map (cL (cI .u8))))), (3, .d (.sl (a3.map (cL cB)))), (11, .ptr 53 0 0), (13, .mref 80), (14, .ref 109 0 l910.length), (17, .d (.lit (.int .i64 r809))), (25, .d (.sl (r1004.2.1.map (cI .u8)))), (26, .d (.lit (.int .i64 r1004.2.2))), (81, .d (.sl (a1.map (cL (cI .i64))))), (82, .d (.lit (.int .i64 (a1.length : Int)))), (83, .d (.lit (.int .i64 v294))), (176, .d (.lit (.bool (!v811))))] [(53, some (.box [.ref 6060 0 r1004.1.durable.length, .ref 6061 0 r1004.1.pending.length])), (80, some (.mp (.int .i64) (encM MKey.ik (vO (cI .u8)) m909))), (109, some (.arr 38 2 (l910.map cS66))), (6060, some (.arr 30 1 (r1004.1.durable.map (cL (cI .u8))))), (6061, some (.arr 66 2 (r1004.1.pending.map cS66)))]) Sub.tt ?_
             refine Chain.nil ?_
             replace h := isome h; rcases h with ⟨c1005, h⟩ | ⟨c1005, h⟩
             ·have c1005_ : (!v811) = true := c1005
              refine AW.condT (b := (!v811)) rfl c1005_ ?_
              refine AW.sub (Sub.bool 176 (b := (!v811)) rfl c1005_) ?_
              refine AW.sub (S' := mk 219 [] [(0, .d (.lit (.int .i64 a0))), (2, .d (.sl (a2.map (cL (cI .u8))))), (3, .d (.sl (a3.map (cL cB)))), (11, .ptr 53 0 0), (13, .mref 80), (14, .ref 109 0 l910.length), (17, .d (.lit (.int .i64 r809))), (25, .d (.sl (r1004.2.1.map (cI .u8)))), (26, .d (.lit (.int .i64 r1004.2.2))), (81, .d (.sl (a1.map (cL (cI .i64))))), (82, .d (.lit (.int .i64 (a1.length : Int)))), (83, .d (.lit (.int .i64 v294))), (176, .d (.lit (.bool true)))] [(53, some (.box [.ref 6060 0 r1004.1.durable.length, .ref 6061 0 r1004.1.pending.length])), (80, some (.mp (.int .i64) (encM MKey.ik (vO (cI .u8)) m909))), (109, some (.arr 38 2 (l910.map cS66))), (6060, some (.arr 30 1 (r1004.1.durable.map (cL (cI .u8))))), (6061, some (.arr 66 2 (r1004.1.pending.map cS66)))]) (by simp; exact Sub.table (by simp) (by simp)) ?_
              replace h := bsome h; obtain ⟨v1007, hj, h⟩ := h
              refine AW.cutR (mk 219 [] [(0, .d (.lit (.int .i64 a0))), (2, .d (.sl (a2.map (cL (cI .u8))))), (3, .d (.sl (a3.map (cL cB)))), (11, .ptr 53 0 0), (13, .mref 80), (14, .ref 109 0 l910.length), (81, .d (.sl (a1.map (cL (cI .i64))))), (82, .d (.lit (.int .i64 (a1.length : Int)))), (83, .d (.lit (.int .i64 v294))), (183, .d (.lit (.bool v1007)))] [(53, some (.box [.ref 6060 0 r1004.1.durable.length, .ref 6061 0 r1004.1.pending.length])), (80, some (.mp (.int .i64) (encM MKey.ik (vO (cI .u8)) m909))), (109, some (.arr 38 2 (l910.map cS66))), (6060, some (.arr 30 1 (r1004.1.durable.map (cL (cI .u8))))), (6061, some (.arr 66 2 (r1004.1.pending.map cS66)))]) ?_ ?_
              ·clear h; have h := hj; clear hj
               refine Chain.runK [] 3 fun K hK => ?_; simp; refine hK _ _ ?_; clear hK K
               refine Chain.sub (S' := mk 219 [] [(0, .d (.lit (.int .i64 a0))), (2, .d (.sl (a2.map (cL (cI .u8))))), (3, .d (.sl (a3.map (cL cB)))), (11, .ptr 53 0 0), (13, .mref 80), (14, .ref 109 0 l910.length), (25, .d (.sl (r1004.2.1.map (cI .u8)))), (81, .d (.sl (a1.map (cL (cI .i64))))), (82, .d (.lit (.int .i64 (a1.length : Int)))), (83, .d (.lit (.int .i64 v294))), (179, .d (.lit (.bool (r1004.2.2 != 1))))] [(53, some (.box [.ref 6060 0 r1004.1.durable.length, .ref 6061 0 r1004.1.pending.length])), (80, some (.mp (.int .i64) (encM MKey.ik (vO (cI .u8)) m909))), (109, some (.arr 38 2 (l910.map cS66))), (6060, some (.arr 30 1 (r1004.1.durable.map (cL (cI .u8))))), (6061, some (.arr 66 2 (r1004.1.pending.map cS66)))]) Sub.tt ?_
               replace h := isome h; rcases h with ⟨c1008, h⟩ | ⟨c1008, h⟩
               ·have c1008_ : (r1004.2.2 != 1) = true := c1008
                refine Chain.sub (Sub.bool 179 (b := (r1004.2.2 != 1)) rfl c1008_) ?_
                refine Chain.sub (S' := mk 219 [] [(0, .d (.lit (.int .i64 a0))), (2, .d (.sl (a2.map (cL (cI .u8))))), (3, .d (.sl (a3.map (cL cB)))), (11, .ptr 53 0 0), (13, .mref 80), (14, .ref 109 0 l910.length), (25, .d (.sl (r1004.2.1.map (cI .u8)))), (81, .d (.sl (a1.map (cL (cI .i64))))), (82, .d (.lit (.int .i64 (a1.length : Int)))), (83, .d (.lit (.int .i64 v294))), (179, .d (.lit (.bool true)))] [(53, some (.box [.ref 6060 0 r1004.1.durable.length, .ref 6061 0 r1004.1.pending.length])), (80, some (.mp (.int .i64) (encM MKey.ik (vO (cI .u8)) m909))), (109, some (.arr 38 2 (l910.map cS66))), (6060, some (.arr 30 1 (r1004.1.durable.map (cL (cI .u8))))), (6061, some (.arr 66 2 (r1004.1.pending.map cS66)))]) (by simp; exact Sub.table (by simp) (by simp)) ?_
                refine Chain.runK [] 4 fun K hK => ?_; simp; refine hK _ _ ?_; clear hK K
                refine Chain.sub (S' := mk 219 [] [(0, .d (.lit (.int .i64 a0))), (2, .d (.sl (a2.map (cL (cI .u8))))), (3, .d (.sl (a3.map (cL cB)))), (11, .ptr 53 0 0), (13, .mref 80), (14, .ref 109 0 l910.length), (81, .d (.sl (a1.map (cL (cI .i64))))), (82, .d (.lit (.int .i64 (a1.length : Int)))), (83, .d (.lit (.int .i64 v294))), (180, .tup []), (181, .tup []), (182, .tup []), (183, .d (.lit (.bool true)))] [(53, some (.box [.ref 6060 0 r1004.1.durable.length, .ref 6061 0 r1004.1.pending.length])), (80, some (.mp (.int .i64) (encM MKey.ik (vO (cI .u8)) m909))), (109, some (.arr 38 2 (l910.map cS66))), (6060, some (.arr 30 1 (r1004.1.durable.map (cL (cI .u8))))), (6061, some (.arr 66 2 (r1004.1.pending.map cS66)))]) Sub.tt ?_
                cases h
                exact Chain.nil Sub.tt
               ·have c1008_ : (r1004.2.2 != 1) = false := Bool.eq_false_iff.2 c1008
                refine Chain.sub (Sub.bool 179 (b := (r1004.2.2 != 1)) rfl c1008_) ?_
                refine Chain.sub (S' := mk 219 [] [(0, .d (.lit (.int .i64 a0))), (2, .d (.sl (a2.map (cL (cI .u8))))), (3, .d (.sl (a3.map (cL cB)))), (11, .ptr 53 0 0), (13, .mref 80), (14, .ref 109 0 l910.length), (25, .d (.sl (r1004.2.1.map (cI .u8)))), (81, .d (.sl (a1.map (cL (cI .i64))))), (82, .d (.lit (.int .i64 (a1.length : Int)))), (83, .d (.lit (.int .i64 v294))), (179, .d (.lit (.bool false)))] [(53, some (.box [.ref 6060 0 r1004.1.durable.length, .ref 6061 0 r1004.1.pending.length])), (80, some (.mp (.int .i64) (encM MKey.ik (vO (cI .u8)) m909))), (109, some (.arr 38 2 (l910.map cS66))), (6060, some (.arr 30 1 (r1004.1.durable.map (cL (cI .u8))))), (6061, some (.arr 66 2 (r1004.1.pending.map cS66)))]) (by simp; exact Sub.table (by simp) (by simp)) ?_
                refine Chain.runK [] 4 fun K hK => ?_; simp; refine hK _ _ ?_; clear hK K
                refine Chain.sub (S' := mk 219 [] [(0, .d (.lit (.int .i64 a0))), (2, .d (.sl (a2.map (cL (cI .u8))))), (3, .d (.sl (a3.map (cL cB)))), (11, .ptr 53 0 0), (13, .mref 80), (14, .ref 109 0 l910.length), (81, .d (.sl (a1.map (cL (cI .i64))))), (82, .d (.lit (.int .i64 (a1.length : Int)))), (83, .d (.lit (.int .i64 v294))), (180, .d (.sl (r1004.2.1.map (cI .u8)))), (181, .d (.lit (.int .i64 (r1004.2.1.length : Int)))), (182, .d (.lit (.bool ((r1004.2.1.length : Int) != 0)))), (183, .d (.lit (.bool ((r1004.2.1.length : Int) != 0))))] [(53, some (.box [.ref 6060 0 r1004.1.durable.length, .ref 6061 0 r1004.1.pending.length])), (80, some (.mp (.int .i64) (encM MKey.ik (vO (cI .u8)) m909))), (109, some (.arr 38 2 (l910.map cS66))), (6060, some (.arr 30 1 (r1004.1.durable.map (cL (cI .u8))))), (6061, some (.arr 66 2 (r1004.1.pending.map cS66)))]) Sub.tt ?_
                cases h
                exact Chain.nil Sub.tt
              ·clear hj
               replace h := isome h; rcases h with ⟨c1009, h⟩ | ⟨c1009, h⟩
               ·have c1009_ : v1007 = true := c1009
                refine AW.condT (b := v1007) rfl c1009_ ?_
                refine AW.sub (Sub.bool 183 (b := v1007) rfl c1009_) ?_
                refine AW.sub (S' := mk 219 [] [(0, .d (.lit (.int .i64 a0))), (2, .d (.sl (a2.map (cL (cI .u8))))), (3, .d (.sl (a3.map (cL cB)))), (11, .ptr 53 0 0), (13, .mref 80), (14, .ref 109 0 l910.length), (81, .d (.sl (a1.map (cL (cI .i64))))), (82, .d (.lit (.int .i64 (a1.length : Int)))), (83, .d (.lit (.int .i64 v294))), (183, .d (.lit (.bool true)))] [(53, some (.box [.ref 6060 0 r1004.1.durable.length, .ref 6061 0 r1004.1.pending.length])), (80, some (.mp (.int .i64) (encM MKey.ik (vO (cI .u8)) m909))), (109, some (.arr 38 2 (l910.map cS66))), (6060, some (.arr 30 1 (r1004.1.durable.map (cL (cI .u8))))), (6061, some (.arr 66 2 (r1004.1.pending.map cS66)))]) (by simp; exact Sub.table (by simp) (by simp)) ?_
                refine AW.seqR ?_
                refine Chain.runK [] 1 fun K hK => ?_; simp; refine hK _ _ ?_; clear hK K
                refine Chain.sub (S' := mk 219 [] [(8, .d (.lit (.bool false)))] []) Sub.tt ?_
                refine Chain.nil ?_
                refine AW.ret ?_
                cases h
                refine thenQ_pass (by simp) ?_
                refine blockQ.ret ?_
                refine thenQ_pass (by simp) ?_
                refine PostI.out (by simp) ?_
                rintro rfl
                refine blockQ.ret ?_
                refine PostJ.out (by simp) ?_
                rintro rfl
                refine thenQ_pass (by simp) ?_
                exact FinC.ret (by simp) (by simp)
               ·have c1009_ : v1007 = false := Bool.eq_false_iff.2 c1009
                refine AW.condF (b := v1007) rfl c1009_ ?_
                refine AW.sub (Sub.bool 183 (b := v1007) rfl c1009_) ?_
                refine AW.sub (S' := mk 219 [] [(0, .d (.lit (.int .i64 a0))), (2, .d (.sl (a2.map (cL (cI .u8))))), (3, .d (.sl (a3.map (cL cB)))), (11, .ptr 53 0 0), (13, .mref 80), (14, .ref 109 0 l910.length), (81, .d (.sl (a1.map (cL (cI .i64))))), (82, .d (.lit (.int .i64 (a1.length : Int)))), (83, .d (.lit (.int .i64 v294))), (183, .d (.lit (.bool false)))] [(53, some (.box [.ref 6060 0 r1004.1.durable.length, .ref 6061 0 r1004.1.pending.length])), (80, some (.mp (.int .i64) (encM MKey.ik (vO (cI .u8)) m909))), (109, some (.arr 38 2 (l910.map cS66))), (6060, some (.arr 30 1 (r1004.1.durable.map (cL (cI .u8))))), (6061, some (.arr 66 2 (r1004.1.pending.map cS66)))]) (by simp; exact Sub.table (by simp) (by simp)) ?_
                refine AW.skip ?_
                refine thenQ_normal ?_
                refine AW.seqR ?_
                refine Chain.runK [] 1 fun K hK => ?_; simp; refine hK _ _ ?_; clear hK K
                refine Chain.sub (S' := mk 219 [] [(0, .d (.lit (.int .i64 a0))), (2, .d (.sl (a2.map (cL (cI .u8))))), (3, .d (.sl (a3.map (cL cB)))), (11, .ptr 53 0 0), (13, .mref 80), (14, .ref 109 0 l910.length), (81, .d (.sl (a1.map (cL (cI .i64))))), (82, .d (.lit (.int .i64 (a1.length : Int)))), (83, .d (.lit (.int .i64 v294))), (213, .ptr 53 0 0)] [(53, some (.box [.ref 6060 0 r1004.1.durable.length, .ref 6061 0 r1004.1.pending.length])), (80, some (.mp (.int .i64) (encM MKey.ik (vO (cI .u8)) m909))), (109, some (.arr 38 2 (l910.map cS66))), (6060, some (.arr 30 1 (r1004.1.durable.map (cL (cI .u8))))), (6061, some (.arr 66 2 (r1004.1.pending.map cS66)))]) Sub.tt ?_
                replace h := bsome h; obtain ⟨r1010, hr1010, h⟩ := h
                refine Chain.callF (p7 N r1004.1 r1010 hr1010) [(53, 1000), (6060, 25000), (6061, 25001)] [53] [(1000, 53), (25000, 6060), (25001, 6061)] [(53, (.box [.ref 6060 0 r1010.1.durable.length, .ref 6061 0 r1010.1.pending.length])), (6060, (.arr 30 1 (r1010.1.durable.map (cL (cI .u8))))), (6061, (.arr 66 2 (r1010.1.pending.map cS66)))] (.d (.lit (.int .i64 r1010.2))) (by simp) rfl (by simp <;> rfl) (by simp) (by simp) (by simp) (by simp) (by simp) ent7 (by simp) (by simp) (by simp) (by simp) (by simp) (by simp) ?_
                refine Chain.sub (S' := mk 219 [] [(0, .d (.lit (.int .i64 a0))), (2, .d (.sl (a2.map (cL (cI .u8))))), (3, .d (.sl (a3.map (cL cB)))), (11, .ptr 53 0 0), (13, .mref 80), (14, .ref 109 0 l910.length), (81, .d (.sl (a1.map (cL (cI .i64))))), (82, .d (.lit (.int .i64 (a1.length : Int)))), (83, .d (.lit (.int .i64 v294))), (213, .ptr 53 0 0), (214, .d (.lit (.int .i64 r1010.2)))] [(53, some (.box [.ref 6060 0 r1010.1.durable.length, .ref 6061 0 r1010.1.pending.length])), (80, some (.mp (.int .i64) (encM MKey.ik (vO (cI .u8)) m909))), (109, some (.arr 38 2 (l910.map cS66))), (6060, some (.arr 30 1 (r1010.1.durable.map (cL (cI .u8))))), (6061, some (.arr 66 2 (r1010.1.pending.map cS66)))]) (by simp; exact Sub.table (by simp) (by simp)) ?_
                refine Chain.runK [] 3 fun K hK => ?_; simp; refine hK _ _ ?_; clear hK K
                refine Chain.sub (S' := mk 219 [] [(0, .d (.lit (.int .i64 a0))), (2, .d (.sl (a2.map (cL (cI .u8))))), (3, .d (.sl (a3.map (cL cB)))), (11, .ptr 53 0 0), (13, .mref 80), (14, .ref 109 0 l910.length), (81, .d (.sl (a1.map (cL (cI .i64))))), (82, .d (.lit (.int .i64 (a1.length : Int)))), (83, .d (.lit (.int .i64 v294))), (217, .d (.lit (.bool (r1010.2 != (l910.length : Int)))))] [(53, some (.box [.ref 6060 0 r1010.1.durable.length, .ref 6061 0 r1010.1.pending.length])), (80, some (.mp (.int .i64) (encM MKey.ik (vO (cI .u8)) m909))), (109, some (.arr 38 2 (l910.map cS66))), (6060, some (.arr 30 1 (r1010.1.durable.map (cL (cI .u8))))), (6061, some (.arr 66 2 (r1010.1.pending.map cS66)))]) Sub.tt ?_
                refine Chain.nil ?_
                replace h := isome h; rcases h with ⟨c1011, h⟩ | ⟨c1011, h⟩
                ·have c1011_ : (r1010.2 != (l910.length : Int)) = true := c1011
                 refine AW.condT (b := (r1010.2 != (l910.length : Int))) rfl c1011_ ?_
                 refine AW.sub (Sub.bool 217 (b := (r1010.2 != (l910.length : Int))) rfl c1011_) ?_
                 refine AW.sub (S' := mk 219 [] [(0, .d (.lit (.int .i64 a0))), (2, .d (.sl (a2.map (cL (cI .u8))))), (3, .d (.sl (a3.map (cL cB)))), (11, .ptr 53 0 0), (13, .mref 80), (14, .ref 109 0 l910.length), (81, .d (.sl (a1.map (cL (cI .i64))))), (82, .d (.lit (.int .i64 (a1.length : Int)))), (83, .d (.lit (.int .i64 v294))), (217, .d (.lit (.bool true)))] [(53, some (.box [.ref 6060 0 r1010.1.durable.length, .ref 6061 0 r1010.1.pending.length])), (80, some (.mp (.int .i64) (encM MKey.ik (vO (cI .u8)) m909))), (109, some (.arr 38 2 (l910.map cS66))), (6060, some (.arr 30 1 (r1010.1.durable.map (cL (cI .u8))))), (6061, some (.arr 66 2 (r1010.1.pending.map cS66)))]) (by simp; exact Sub.table (by simp) (by simp)) ?_
                 refine AW.seqR ?_
                 refine Chain.runK [] 1 fun K hK => ?_; simp; refine hK _ _ ?_; clear hK K
                 refine Chain.sub (S' := mk 219 [] [(8, .d (.lit (.bool false)))] []) Sub.tt ?_
                 refine Chain.nil ?_
                 refine AW.ret ?_
                 cases h
                 refine blockQ.ret ?_
                 refine thenQ_pass (by simp) ?_
                 refine PostI.out (by simp) ?_
                 rintro rfl
                 refine blockQ.ret ?_
                 refine PostJ.out (by simp) ?_
                 rintro rfl
                 refine thenQ_pass (by simp) ?_
                 exact FinC.ret (by simp) (by simp)
                ·have c1011_ : (r1010.2 != (l910.length : Int)) = false := Bool.eq_false_iff.2 c1011
                 refine AW.condF (b := (r1010.2 != (l910.length : Int))) rfl c1011_ ?_
                 refine AW.sub (Sub.bool 217 (b := (r1010.2 != (l910.length : Int))) rfl c1011_) ?_
                 refine AW.sub (S' := mk 219 [] [(0, .d (.lit (.int .i64 a0))), (2, .d (.sl (a2.map (cL (cI .u8))))), (3, .d (.sl (a3.map (cL cB)))), (11, .ptr 53 0 0), (13, .mref 80), (14, .ref 109 0 l910.length), (81, .d (.sl (a1.map (cL (cI .i64))))), (82, .d (.lit (.int .i64 (a1.length : Int)))), (83, .d (.lit (.int .i64 v294))), (217, .d (.lit (.bool false)))] [(53, some (.box [.ref 6060 0 r1010.1.durable.length, .ref 6061 0 r1010.1.pending.length])), (80, some (.mp (.int .i64) (encM MKey.ik (vO (cI .u8)) m909))), (109, some (.arr 38 2 (l910.map cS66))), (6060, some (.arr 30 1 (r1010.1.durable.map (cL (cI .u8))))), (6061, some (.arr 66 2 (r1010.1.pending.map cS66)))]) (by simp; exact Sub.table (by simp) (by simp)) ?_
                 refine AW.skip ?_
                 refine blockQ.normal ?_
                 refine thenQ_normal ?_
                 refine AW.region ?_
                 replace h := bsome h; obtain ⟨v1012, hv1012, h⟩ := h
                 have hv1012 := chkI_some hv1012
                 refine Chain.runK [] 2 fun K hK => ?_; simp [hv1012]; refine hK _ _ ?_; clear hK K
                 refine Chain.sub (S' := mk 219 [] [(0, .d (.lit (.int .i64 a0))), (2, .d (.sl (a2.map (cL (cI .u8))))), (3, .d (.sl (a3.map (cL cB)))), (11, .ptr 53 0 0), (13, .mref 80), (14, .ref 109 0 l910.length), (81, .d (.sl (a1.map (cL (cI .i64))))), (82, .d (.lit (.int .i64 (a1.length : Int)))), (83, .d (.lit (.int .i64 v1012)))] [(53, some (.box [.ref 6060 0 r1010.1.durable.length, .ref 6061 0 r1010.1.pending.length])), (80, some (.mp (.int .i64) (encM MKey.ik (vO (cI .u8)) m909))), (109, some (.arr 38 2 (l910.map cS66))), (6060, some (.arr 30 1 (r1010.1.durable.map (cL (cI .u8))))), (6061, some (.arr 66 2 (r1010.1.pending.map cS66)))]) Sub.tt ?_
                 refine Chain.nil ?_
                 cases h
                 refine PostI.next ?_
                 exact Sub.tt
             ·have c1005_ : (!v811) = false := Bool.eq_false_iff.2 c1005
              refine AW.condF (b := (!v811)) rfl c1005_ ?_
              refine AW.sub (Sub.bool 176 (b := (!v811)) rfl c1005_) ?_
              refine AW.sub (S' := mk 219 [] [(0, .d (.lit (.int .i64 a0))), (2, .d (.sl (a2.map (cL (cI .u8))))), (3, .d (.sl (a3.map (cL cB)))), (11, .ptr 53 0 0), (13, .mref 80), (14, .ref 109 0 l910.length), (17, .d (.lit (.int .i64 r809))), (25, .d (.sl (r1004.2.1.map (cI .u8)))), (26, .d (.lit (.int .i64 r1004.2.2))), (81, .d (.sl (a1.map (cL (cI .i64))))), (82, .d (.lit (.int .i64 (a1.length : Int)))), (83, .d (.lit (.int .i64 v294))), (176, .d (.lit (.bool false)))] [(53, some (.box [.ref 6060 0 r1004.1.durable.length, .ref 6061 0 r1004.1.pending.length])), (80, some (.mp (.int .i64) (encM MKey.ik (vO (cI .u8)) m909))), (109, some (.arr 38 2 (l910.map cS66))), (6060, some (.arr 30 1 (r1004.1.durable.map (cL (cI .u8))))), (6061, some (.arr 66 2 (r1004.1.pending.map cS66)))]) (by simp; exact Sub.table (by simp) (by simp)) ?_
              refine AW.seqR ?_
              refine Chain.runK [] 2 fun K hK => ?_; simp; refine hK _ _ ?_; clear hK K
              refine Chain.sub (S' := mk 219 [] [(0, .d (.lit (.int .i64 a0))), (2, .d (.sl (a2.map (cL (cI .u8))))), (3, .d (.sl (a3.map (cL cB)))), (11, .ptr 53 0 0), (13, .mref 80), (14, .ref 109 0 l910.length), (17, .d (.lit (.int .i64 r809))), (25, .d (.sl (r1004.2.1.map (cI .u8)))), (26, .d (.lit (.int .i64 r1004.2.2))), (81, .d (.sl (a1.map (cL (cI .i64))))), (82, .d (.lit (.int .i64 (a1.length : Int)))), (83, .d (.lit (.int .i64 v294))), (184, .mref 80), (185, .d (.lit (.int .i64 r809)))] [(53, some (.box [.ref 6060 0 r1004.1.durable.length, .ref 6061 0 r1004.1.pending.length])), (80, some (.mp (.int .i64) (encM MKey.ik (vO (cI .u8)) m909))), (109, some (.arr 38 2 (l910.map cS66))), (6060, some (.arr 30 1 (r1004.1.durable.map (cL (cI .u8))))), (6061, some (.arr 66 2 (r1004.1.pending.map cS66)))]) Sub.tt ?_
              replace h := lsome h; obtain ⟨v1013, hv1013, h⟩ := h
              refine Chain.lookS (c := (cI .u8)) ik_inj m909 r809 (by simp) rfl rfl ty32 rfl ty3 ty30 rfl rfl rfl rfl rfl rfl ?_
              refine Chain.sub (S' := mk 219 [] [(0, .d (.lit (.int .i64 a0))), (2, .d (.sl (a2.map (cL (cI .u8))))), (3, .d (.sl (a3.map (cL cB)))), (11, .ptr 53 0 0), (13, .mref 80), (14, .ref 109 0 l910.length), (17, .d (.lit (.int .i64 r809))), (25, .d (.sl (r1004.2.1.map (cI .u8)))), (26, .d (.lit (.int .i64 r1004.2.2))), (81, .d (.sl (a1.map (cL (cI .i64))))), (82, .d (.lit (.int .i64 (a1.length : Int)))), (83, .d (.lit (.int .i64 v294))), (184, .mref 80), (185, .d (.lit (.int .i64 r809))), (186, .d (.sl (v1013.map (cI .u8))))] [(53, some (.box [.ref 6060 0 r1004.1.durable.length, .ref 6061 0 r1004.1.pending.length])), (80, some (.mp (.int .i64) (encM MKey.ik (vO (cI .u8)) m909))), (109, some (.arr 38 2 (l910.map cS66))), (6060, some (.arr 30 1 (r1004.1.durable.map (cL (cI .u8))))), (6061, some (.arr 66 2 (r1004.1.pending.map cS66)))]) (by simp [vO, hv1013]; exact Sub.table (by simp) (by simp)) ?_
              refine Chain.runK [] 1 fun K hK => ?_; simp; refine hK _ _ ?_; clear hK K
              refine Chain.sub (S' := mk 219 [] [(0, .d (.lit (.int .i64 a0))), (2, .d (.sl (a2.map (cL (cI .u8))))), (3, .d (.sl (a3.map (cL cB)))), (11, .ptr 53 0 0), (13, .mref 80), (14, .ref 109 0 l910.length), (17, .d (.lit (.int .i64 r809))), (25, .d (.sl (r1004.2.1.map (cI .u8)))), (26, .d (.lit (.int .i64 r1004.2.2))), (27, .d (.sl (v1013.map (cI .u8)))), (81, .d (.sl (a1.map (cL (cI .i64))))), (82, .d (.lit (.int .i64 (a1.length : Int)))), (83, .d (.lit (.int .i64 v294)))] [(53, some (.box [.ref 6060 0 r1004.1.durable.length, .ref 6061 0 r1004.1.pending.length])), (80, some (.mp (.int .i64) (encM MKey.ik (vO (cI .u8)) m909))), (109, some (.arr 38 2 (l910.map cS66))), (6060, some (.arr 30 1 (r1004.1.durable.map (cL (cI .u8))))), (6061, some (.arr 66 2 (r1004.1.pending.map cS66)))]) Sub.tt ?_
              refine Chain.nil ?_
              refine AW.seq ?_
              refine AW.seqR ?_
              refine Chain.runK [] 3 fun K hK => ?_; simp; refine hK _ _ ?_; clear hK K
              refine Chain.sub (S' := mk 219 [] [(0, .d (.lit (.int .i64 a0))), (2, .d (.sl (a2.map (cL (cI .u8))))), (3, .d (.sl (a3.map (cL cB)))), (11, .ptr 53 0 0), (13, .mref 80), (14, .ref 109 0 l910.length), (17, .d (.lit (.int .i64 r809))), (25, .d (.sl (r1004.2.1.map (cI .u8)))), (26, .d (.lit (.int .i64 r1004.2.2))), (27, .d (.sl (v1013.map (cI .u8)))), (81, .d (.sl (a1.map (cL (cI .i64))))), (82, .d (.lit (.int .i64 (a1.length : Int)))), (83, .d (.lit (.int .i64 v294))), (187, .ref 109 0 l910.length), (188, .d (.lit (.int .i64 (l910.length : Int)))), (189, .d (.lit (.int .i64 0)))] [(53, some (.box [.ref 6060 0 r1004.1.durable.length, .ref 6061 0 r1004.1.pending.length])), (80, some (.mp (.int .i64) (encM MKey.ik (vO (cI .u8)) m909))), (109, some (.arr 38 2 (l910.map cS66))), (6060, some (.arr 30 1 (r1004.1.durable.map (cL (cI .u8))))), (6061, some (.arr 66 2 (r1004.1.pending.map cS66)))]) Sub.tt ?_
              refine Chain.nil ?_
              refine AW.lastN (fun (l1035 : List Int) => mk 219 [] [(0, .d (.lit (.int .i64 a0))), (2, .d (.sl (a2.map (cL (cI .u8))))), (3, .d (.sl (a3.map (cL cB)))), (11, .ptr 53 0 0), (13, .mref 80), (14, .ref 109 0 l910.length), (25, .d (.sl (r1004.2.1.map (cI .u8)))), (26, .d (.lit (.int .i64 r1004.2.2))), (27, .d (.sl (l1035.map (cI .u8)))), (81, .d (.sl (a1.map (cL (cI .i64))))), (82, .d (.lit (.int .i64 (a1.length : Int)))), (83, .d (.lit (.int .i64 v294)))] [(53, some (.box [.ref 6060 0 r1004.1.durable.length, .ref 6061 0 r1004.1.pending.length])), (80, some (.mp (.int .i64) (encM MKey.ik (vO (cI .u8)) m909))), (109, some (.arr 38 2 (l910.map cS66))), (6060, some (.arr 30 1 (r1004.1.durable.map (cL (cI .u8))))), (6061, some (.arr 66 2 (r1004.1.pending.map cS66)))]) h ?_ ?_ <;> clear h
              ·intro o h
               refine AW.block ?_
               refine AW.iter (fun ((l1019, v1020) : ((List Int) × Int)) => mk 219 [] [(0, .d (.lit (.int .i64 a0))), (2, .d (.sl (a2.map (cL (cI .u8))))), (3, .d (.sl (a3.map (cL cB)))), (11, .ptr 53 0 0), (13, .mref 80), (14, .ref 109 0 l910.length), (17, .d (.lit (.int .i64 r809))), (25, .d (.sl (r1004.2.1.map (cI .u8)))), (26, .d (.lit (.int .i64 r1004.2.2))), (27, .d (.sl (l1019.map (cI .u8)))), (81, .d (.sl (a1.map (cL (cI .i64))))), (82, .d (.lit (.int .i64 (a1.length : Int)))), (83, .d (.lit (.int .i64 v294))), (187, .ref 109 0 l910.length), (188, .d (.lit (.int .i64 (l910.length : Int)))), (189, .d (.lit (.int .i64 v1020)))] [(53, some (.box [.ref 6060 0 r1004.1.durable.length, .ref 6061 0 r1004.1.pending.length])), (80, some (.mp (.int .i64) (encM MKey.ik (vO (cI .u8)) m909))), (109, some (.arr 38 2 (l910.map cS66))), (6060, some (.arr 30 1 (r1004.1.durable.map (cL (cI .u8))))), (6061, some (.arr 66 2 (r1004.1.pending.map cS66)))]) h Sub.tt ?_
               clear h
               rintro ⟨l1019, v1020⟩ x h
               dsimp only at h ⊢
               refine AW.seqR ?_
               refine Chain.runK [] 1 fun K hK => ?_; simp; refine hK _ _ ?_; clear hK K
               refine Chain.sub (S' := mk 219 [] [(0, .d (.lit (.int .i64 a0))), (2, .d (.sl (a2.map (cL (cI .u8))))), (3, .d (.sl (a3.map (cL cB)))), (11, .ptr 53 0 0), (13, .mref 80), (14, .ref 109 0 l910.length), (17, .d (.lit (.int .i64 r809))), (25, .d (.sl (r1004.2.1.map (cI .u8)))), (26, .d (.lit (.int .i64 r1004.2.2))), (27, .d (.sl (l1019.map (cI .u8)))), (81, .d (.sl (a1.map (cL (cI .i64))))), (82, .d (.lit (.int .i64 (a1.length : Int)))), (83, .d (.lit (.int .i64 v294))), (187, .ref 109 0 l910.length), (188, .d (.lit (.int .i64 (l910.length : Int)))), (189, .d (.lit (.int .i64 v1020))), (190, .d (.lit (.bool (decide (v1020 < (l910.length : Int))))))] [(53, some (.box [.ref 6060 0 r1004.1.durable.length, .ref 6061 0 r1004.1.pending.length])), (80, some (.mp (.int .i64) (encM MKey.ik (vO (cI .u8)) m909))), (109, some (.arr 38 2 (l910.map cS66))), (6060, some (.arr 30 1 (r1004.1.durable.map (cL (cI .u8))))), (6061, some (.arr 66 2 (r1004.1.pending.map cS66)))]) Sub.tt ?_
               refine Chain.nil ?_
               refine AW.seq ?_
               replace h := isome h; rcases h with ⟨c1036, h⟩ | ⟨c1036, h⟩
               ·have c1036_ : decide (v1020 < (l910.length : Int)) = true := decide_eq_true c1036
                refine AW.condT (b := decide (v1020 < (l910.length : Int))) rfl c1036_ ?_
                refine AW.sub (Sub.bool 190 (b := decide (v1020 < (l910.length : Int))) rfl c1036_) ?_
                refine AW.sub (S' := mk 219 [] [(0, .d (.lit (.int .i64 a0))), (2, .d (.sl (a2.map (cL (cI .u8))))), (3, .d (.sl (a3.map (cL cB)))), (11, .ptr 53 0 0), (13, .mref 80), (14, .ref 109 0 l910.length), (17, .d (.lit (.int .i64 r809))), (25, .d (.sl (r1004.2.1.map (cI .u8)))), (26, .d (.lit (.int .i64 r1004.2.2))), (27, .d (.sl (l1019.map (cI .u8)))), (81, .d (.sl (a1.map (cL (cI .i64))))), (82, .d (.lit (.int .i64 (a1.length : Int)))), (83, .d (.lit (.int .i64 v294))), (187, .ref 109 0 l910.length), (188, .d (.lit (.int .i64 (l910.length : Int)))), (189, .d (.lit (.int .i64 v1020))), (190, .d (.lit (.bool true)))] [(53, some (.box [.ref 6060 0 r1004.1.durable.length, .ref 6061 0 r1004.1.pending.length])), (80, some (.mp (.int .i64) (encM MKey.ik (vO (cI .u8)) m909))), (109, some (.arr 38 2 (l910.map cS66))), (6060, some (.arr 30 1 (r1004.1.durable.map (cL (cI .u8))))), (6061, some (.arr 66 2 (r1004.1.pending.map cS66)))]) (by simp; exact Sub.table (by simp) (by simp)) ?_
                refine AW.skip ?_
                refine thenQ_normal ?_
                refine AW.seq ?_
                refine AW.block ?_
                refine AW.seqR ?_
                replace h := bsome h; obtain ⟨x1037, hx1037, h⟩ := h
                obtain ⟨k1038, hx1037k, hx1037, hx1037a, hx1037b⟩ := idx_some hx1037
                refine Chain.runK [] 4 fun K hK => ?_; simp [hx1037, hx1037k, hx1037a, hx1037b]; refine hK _ _ ?_; clear hK K
                refine Chain.sub (S' := mk 219 [] [(0, .d (.lit (.int .i64 a0))), (2, .d (.sl (a2.map (cL (cI .u8))))), (3, .d (.sl (a3.map (cL cB)))), (11, .ptr 53 0 0), (13, .mref 80), (14, .ref 109 0 l910.length), (17, .d (.lit (.int .i64 r809))), (25, .d (.sl (r1004.2.1.map (cI .u8)))), (26, .d (.lit (.int .i64 r1004.2.2))), (27, .d (.sl (l1019.map (cI .u8)))), (29, .ptr 29 0 0), (81, .d (.sl (a1.map (cL (cI .i64))))), (82, .d (.lit (.int .i64 (a1.length : Int)))), (83, .d (.lit (.int .i64 v294))), (187, .ref 109 0 l910.length), (188, .d (.lit (.int .i64 (l910.length : Int)))), (189, .d (.lit (.int .i64 v1020)))] [(29, some (.box [.d (.lit (.int .i64 x1037.sector)), .d (.sl (x1037.data.map (cI .u8)))])), (53, some (.box [.ref 6060 0 r1004.1.durable.length, .ref 6061 0 r1004.1.pending.length])), (80, some (.mp (.int .i64) (encM MKey.ik (vO (cI .u8)) m909))), (109, some (.arr 38 2 (l910.map cS66))), (6060, some (.arr 30 1 (r1004.1.durable.map (cL (cI .u8))))), (6061, some (.arr 66 2 (r1004.1.pending.map cS66)))]) Sub.tt ?_
                refine Chain.nil ?_
                refine AW.seqR ?_
                refine Chain.runK [] 4 fun K hK => ?_; simp; refine hK _ _ ?_; clear hK K
                refine Chain.sub (S' := mk 219 [] [(0, .d (.lit (.int .i64 a0))), (2, .d (.sl (a2.map (cL (cI .u8))))), (3, .d (.sl (a3.map (cL cB)))), (11, .ptr 53 0 0), (13, .mref 80), (14, .ref 109 0 l910.length), (17, .d (.lit (.int .i64 r809))), (25, .d (.sl (r1004.2.1.map (cI .u8)))), (26, .d (.lit (.int .i64 r1004.2.2))), (27, .d (.sl (l1019.map (cI .u8)))), (29, .ptr 29 0 0), (81, .d (.sl (a1.map (cL (cI .i64))))), (82, .d (.lit (.int .i64 (a1.length : Int)))), (83, .d (.lit (.int .i64 v294))), (187, .ref 109 0 l910.length), (188, .d (.lit (.int .i64 (l910.length : Int)))), (189, .d (.lit (.int .i64 v1020))), (196, .d (.lit (.bool (x1037.sector == r809))))] [(29, some (.box [.d (.lit (.int .i64 x1037.sector)), .d (.sl (x1037.data.map (cI .u8)))])), (53, some (.box [.ref 6060 0 r1004.1.durable.length, .ref 6061 0 r1004.1.pending.length])), (80, some (.mp (.int .i64) (encM MKey.ik (vO (cI .u8)) m909))), (109, some (.arr 38 2 (l910.map cS66))), (6060, some (.arr 30 1 (r1004.1.durable.map (cL (cI .u8))))), (6061, some (.arr 66 2 (r1004.1.pending.map cS66)))]) Sub.tt ?_
                refine Chain.nil ?_
                replace h := isome h; rcases h with ⟨c1039, h⟩ | ⟨c1039, h⟩
                ·have c1039_ : (x1037.sector == r809) = true := c1039
                 refine AW.condT (b := (x1037.sector == r809)) rfl c1039_ ?_
                 refine AW.sub (Sub.bool 196 (b := (x1037.sector == r809)) rfl c1039_) ?_
                 refine AW.sub (S' := mk 219 [] [(0, .d (.lit (.int .i64 a0))), (2, .d (.sl (a2.map (cL (cI .u8))))), (3, .d (.sl (a3.map (cL cB)))), (11, .ptr 53 0 0), (13, .mref 80), (14, .ref 109 0 l910.length), (17, .d (.lit (.int .i64 r809))), (25, .d (.sl (r1004.2.1.map (cI .u8)))), (26, .d (.lit (.int .i64 r1004.2.2))), (27, .d (.sl (l1019.map (cI .u8)))), (29, .ptr 29 0 0), (81, .d (.sl (a1.map (cL (cI .i64))))), (82, .d (.lit (.int .i64 (a1.length : Int)))), (83, .d (.lit (.int .i64 v294))), (187, .ref 109 0 l910.length), (188, .d (.lit (.int .i64 (l910.length : Int)))), (189, .d (.lit (.int .i64 v1020))), (196, .d (.lit (.bool true)))] [(29, some (.box [.d (.lit (.int .i64 x1037.sector)), .d (.sl (x1037.data.map (cI .u8)))])), (53, some (.box [.ref 6060 0 r1004.1.durable.length, .ref 6061 0 r1004.1.pending.length])), (80, some (.mp (.int .i64) (encM MKey.ik (vO (cI .u8)) m909))), (109, some (.arr 38 2 (l910.map cS66))), (6060, some (.arr 30 1 (r1004.1.durable.map (cL (cI .u8))))), (6061, some (.arr 66 2 (r1004.1.pending.map cS66)))]) (by simp; exact Sub.table (by simp) (by simp)) ?_
                 refine AW.region ?_
                 refine Chain.runK [] 3 fun K hK => ?_; simp; refine hK _ _ ?_; clear hK K
                 refine Chain.sub (S' := mk 219 [] [(0, .d (.lit (.int .i64 a0))), (2, .d (.sl (a2.map (cL (cI .u8))))), (3, .d (.sl (a3.map (cL cB)))), (11, .ptr 53 0 0), (13, .mref 80), (14, .ref 109 0 l910.length), (17, .d (.lit (.int .i64 r809))), (25, .d (.sl (r1004.2.1.map (cI .u8)))), (26, .d (.lit (.int .i64 r1004.2.2))), (27, .d (.sl (x1037.data.map (cI .u8)))), (81, .d (.sl (a1.map (cL (cI .i64))))), (82, .d (.lit (.int .i64 (a1.length : Int)))), (83, .d (.lit (.int .i64 v294))), (187, .ref 109 0 l910.length), (188, .d (.lit (.int .i64 (l910.length : Int)))), (189, .d (.lit (.int .i64 v1020)))] [(53, some (.box [.ref 6060 0 r1004.1.durable.length, .ref 6061 0 r1004.1.pending.length])), (80, some (.mp (.int .i64) (encM MKey.ik (vO (cI .u8)) m909))), (109, some (.arr 38 2 (l910.map cS66))), (6060, some (.arr 30 1 (r1004.1.durable.map (cL (cI .u8))))), (6061, some (.arr 66 2 (r1004.1.pending.map cS66)))]) Sub.tt ?_
                 refine Chain.nil ?_
                 refine blockQ.normal ?_
                 refine thenQ_normal ?_
                 refine AW.region ?_
                 replace h := bsome h; obtain ⟨v1040, hv1040, h⟩ := h
                 have hv1040 := chkI_some hv1040
                 refine Chain.runK [] 2 fun K hK => ?_; simp [hv1040]; refine hK _ _ ?_; clear hK K
                 refine Chain.sub (S' := mk 219 [] [(0, .d (.lit (.int .i64 a0))), (2, .d (.sl (a2.map (cL (cI .u8))))), (3, .d (.sl (a3.map (cL cB)))), (11, .ptr 53 0 0), (13, .mref 80), (14, .ref 109 0 l910.length), (17, .d (.lit (.int .i64 r809))), (25, .d (.sl (r1004.2.1.map (cI .u8)))), (26, .d (.lit (.int .i64 r1004.2.2))), (27, .d (.sl (x1037.data.map (cI .u8)))), (81, .d (.sl (a1.map (cL (cI .i64))))), (82, .d (.lit (.int .i64 (a1.length : Int)))), (83, .d (.lit (.int .i64 v294))), (187, .ref 109 0 l910.length), (188, .d (.lit (.int .i64 (l910.length : Int)))), (189, .d (.lit (.int .i64 v1040)))] [(53, some (.box [.ref 6060 0 r1004.1.durable.length, .ref 6061 0 r1004.1.pending.length])), (80, some (.mp (.int .i64) (encM MKey.ik (vO (cI .u8)) m909))), (109, some (.arr 38 2 (l910.map cS66))), (6060, some (.arr 30 1 (r1004.1.durable.map (cL (cI .u8))))), (6061, some (.arr 66 2 (r1004.1.pending.map cS66)))]) Sub.tt ?_
                 refine Chain.nil ?_
                 cases h
                 refine PostI.next ?_
                 exact Sub.tt
                ·have c1039_ : (x1037.sector == r809) = false := Bool.eq_false_iff.2 c1039
                 refine AW.condF (b := (x1037.sector == r809)) rfl c1039_ ?_
                 refine AW.sub (Sub.bool 196 (b := (x1037.sector == r809)) rfl c1039_) ?_
                 refine AW.sub (S' := mk 219 [] [(0, .d (.lit (.int .i64 a0))), (2, .d (.sl (a2.map (cL (cI .u8))))), (3, .d (.sl (a3.map (cL cB)))), (11, .ptr 53 0 0), (13, .mref 80), (14, .ref 109 0 l910.length), (17, .d (.lit (.int .i64 r809))), (25, .d (.sl (r1004.2.1.map (cI .u8)))), (26, .d (.lit (.int .i64 r1004.2.2))), (27, .d (.sl (l1019.map (cI .u8)))), (29, .ptr 29 0 0), (81, .d (.sl (a1.map (cL (cI .i64))))), (82, .d (.lit (.int .i64 (a1.length : Int)))), (83, .d (.lit (.int .i64 v294))), (187, .ref 109 0 l910.length), (188, .d (.lit (.int .i64 (l910.length : Int)))), (189, .d (.lit (.int .i64 v1020))), (196, .d (.lit (.bool false)))] [(29, some (.box [.d (.lit (.int .i64 x1037.sector)), .d (.sl (x1037.data.map (cI .u8)))])), (53, some (.box [.ref 6060 0 r1004.1.durable.length, .ref 6061 0 r1004.1.pending.length])), (80, some (.mp (.int .i64) (encM MKey.ik (vO (cI .u8)) m909))), (109, some (.arr 38 2 (l910.map cS66))), (6060, some (.arr 30 1 (r1004.1.durable.map (cL (cI .u8))))), (6061, some (.arr 66 2 (r1004.1.pending.map cS66)))]) (by simp; exact Sub.table (by simp) (by simp)) ?_
                 refine AW.skip ?_
                 refine blockQ.normal ?_
                 refine thenQ_normal ?_
                 refine AW.region ?_
                 replace h := bsome h; obtain ⟨v1041, hv1041, h⟩ := h
                 have hv1041 := chkI_some hv1041
                 refine Chain.runK [] 2 fun K hK => ?_; simp [hv1041]; refine hK _ _ ?_; clear hK K
                 refine Chain.sub (S' := mk 219 [] [(0, .d (.lit (.int .i64 a0))), (2, .d (.sl (a2.map (cL (cI .u8))))), (3, .d (.sl (a3.map (cL cB)))), (11, .ptr 53 0 0), (13, .mref 80), (14, .ref 109 0 l910.length), (17, .d (.lit (.int .i64 r809))), (25, .d (.sl (r1004.2.1.map (cI .u8)))), (26, .d (.lit (.int .i64 r1004.2.2))), (27, .d (.sl (l1019.map (cI .u8)))), (81, .d (.sl (a1.map (cL (cI .i64))))), (82, .d (.lit (.int .i64 (a1.length : Int)))), (83, .d (.lit (.int .i64 v294))), (187, .ref 109 0 l910.length), (188, .d (.lit (.int .i64 (l910.length : Int)))), (189, .d (.lit (.int .i64 v1041)))] [(53, some (.box [.ref 6060 0 r1004.1.durable.length, .ref 6061 0 r1004.1.pending.length])), (80, some (.mp (.int .i64) (encM MKey.ik (vO (cI .u8)) m909))), (109, some (.arr 38 2 (l910.map cS66))), (6060, some (.arr 30 1 (r1004.1.durable.map (cL (cI .u8))))), (6061, some (.arr 66 2 (r1004.1.pending.map cS66)))]) Sub.tt ?_
                 refine Chain.nil ?_
                 cases h
                 refine PostI.next ?_
                 exact Sub.tt
               ·have c1036_ : decide (v1020 < (l910.length : Int)) = false := decide_eq_false c1036
                refine AW.condF (b := decide (v1020 < (l910.length : Int))) rfl c1036_ ?_
                refine AW.sub (Sub.bool 190 (b := decide (v1020 < (l910.length : Int))) rfl c1036_) ?_
                refine AW.sub (S' := mk 219 [] [(0, .d (.lit (.int .i64 a0))), (2, .d (.sl (a2.map (cL (cI .u8))))), (3, .d (.sl (a3.map (cL cB)))), (11, .ptr 53 0 0), (13, .mref 80), (14, .ref 109 0 l910.length), (17, .d (.lit (.int .i64 r809))), (25, .d (.sl (r1004.2.1.map (cI .u8)))), (26, .d (.lit (.int .i64 r1004.2.2))), (27, .d (.sl (l1019.map (cI .u8)))), (81, .d (.sl (a1.map (cL (cI .i64))))), (82, .d (.lit (.int .i64 (a1.length : Int)))), (83, .d (.lit (.int .i64 v294))), (187, .ref 109 0 l910.length), (188, .d (.lit (.int .i64 (l910.length : Int)))), (189, .d (.lit (.int .i64 v1020))), (190, .d (.lit (.bool false)))] [(53, some (.box [.ref 6060 0 r1004.1.durable.length, .ref 6061 0 r1004.1.pending.length])), (80, some (.mp (.int .i64) (encM MKey.ik (vO (cI .u8)) m909))), (109, some (.arr 38 2 (l910.map cS66))), (6060, some (.arr 30 1 (r1004.1.durable.map (cL (cI .u8))))), (6061, some (.arr 66 2 (r1004.1.pending.map cS66)))]) (by simp; exact Sub.table (by simp) (by simp)) ?_
                refine AW.exit ?_
                cases h
                refine thenQ_pass (by simp) ?_
                refine PostI.out (by simp) ?_
                rintro rfl
                refine blockQ.hit ?_
                refine PostN.next ?_
                exact Sub.tt
              ·rintro l1035 h
               refine thenQ_normal ?_
               replace h := bsome h; obtain ⟨v1048, hj, h⟩ := h
               refine AW.cutR (mk 219 [] [(0, .d (.lit (.int .i64 a0))), (2, .d (.sl (a2.map (cL (cI .u8))))), (3, .d (.sl (a3.map (cL cB)))), (11, .ptr 53 0 0), (13, .mref 80), (14, .ref 109 0 l910.length), (81, .d (.sl (a1.map (cL (cI .i64))))), (82, .d (.lit (.int .i64 (a1.length : Int)))), (83, .d (.lit (.int .i64 v294))), (212, .d (.lit (.bool v1048)))] [(53, some (.box [.ref 6060 0 r1004.1.durable.length, .ref 6061 0 r1004.1.pending.length])), (80, some (.mp (.int .i64) (encM MKey.ik (vO (cI .u8)) m909))), (109, some (.arr 38 2 (l910.map cS66))), (6060, some (.arr 30 1 (r1004.1.durable.map (cL (cI .u8))))), (6061, some (.arr 66 2 (r1004.1.pending.map cS66)))]) ?_ ?_
               ·clear h; have h := hj; clear hj
                refine Chain.runK [] 3 fun K hK => ?_; simp; refine hK _ _ ?_; clear hK K
                refine Chain.sub (S' := mk 219 [] [(0, .d (.lit (.int .i64 a0))), (2, .d (.sl (a2.map (cL (cI .u8))))), (3, .d (.sl (a3.map (cL cB)))), (11, .ptr 53 0 0), (13, .mref 80), (14, .ref 109 0 l910.length), (25, .d (.sl (r1004.2.1.map (cI .u8)))), (27, .d (.sl (l1035.map (cI .u8)))), (81, .d (.sl (a1.map (cL (cI .i64))))), (82, .d (.lit (.int .i64 (a1.length : Int)))), (83, .d (.lit (.int .i64 v294))), (202, .d (.lit (.bool (r1004.2.2 != 0))))] [(53, some (.box [.ref 6060 0 r1004.1.durable.length, .ref 6061 0 r1004.1.pending.length])), (80, some (.mp (.int .i64) (encM MKey.ik (vO (cI .u8)) m909))), (109, some (.arr 38 2 (l910.map cS66))), (6060, some (.arr 30 1 (r1004.1.durable.map (cL (cI .u8))))), (6061, some (.arr 66 2 (r1004.1.pending.map cS66)))]) Sub.tt ?_
                replace h := isome h; rcases h with ⟨c1049, h⟩ | ⟨c1049, h⟩
                ·have c1049_ : (r1004.2.2 != 0) = true := c1049
                 refine Chain.sub (Sub.bool 202 (b := (r1004.2.2 != 0)) rfl c1049_) ?_
                 refine Chain.sub (S' := mk 219 [] [(0, .d (.lit (.int .i64 a0))), (2, .d (.sl (a2.map (cL (cI .u8))))), (3, .d (.sl (a3.map (cL cB)))), (11, .ptr 53 0 0), (13, .mref 80), (14, .ref 109 0 l910.length), (25, .d (.sl (r1004.2.1.map (cI .u8)))), (27, .d (.sl (l1035.map (cI .u8)))), (81, .d (.sl (a1.map (cL (cI .i64))))), (82, .d (.lit (.int .i64 (a1.length : Int)))), (83, .d (.lit (.int .i64 v294))), (202, .d (.lit (.bool true)))] [(53, some (.box [.ref 6060 0 r1004.1.durable.length, .ref 6061 0 r1004.1.pending.length])), (80, some (.mp (.int .i64) (encM MKey.ik (vO (cI .u8)) m909))), (109, some (.arr 38 2 (l910.map cS66))), (6060, some (.arr 30 1 (r1004.1.durable.map (cL (cI .u8))))), (6061, some (.arr 66 2 (r1004.1.pending.map cS66)))]) (by simp; exact Sub.table (by simp) (by simp)) ?_
                 refine Chain.runK [] 10 fun K hK => ?_; simp; refine hK _ _ ?_; clear hK K
                 refine Chain.sub (S' := mk 219 [] [(0, .d (.lit (.int .i64 a0))), (2, .d (.sl (a2.map (cL (cI .u8))))), (3, .d (.sl (a3.map (cL cB)))), (11, .ptr 53 0 0), (13, .mref 80), (14, .ref 109 0 l910.length), (81, .d (.sl (a1.map (cL (cI .i64))))), (82, .d (.lit (.int .i64 (a1.length : Int)))), (83, .d (.lit (.int .i64 v294))), (203, .tup []), (204, .tup []), (205, .tup []), (206, .tup []), (207, .tup []), (208, .tup []), (209, .tup []), (210, .tup []), (211, .tup []), (212, .d (.lit (.bool true)))] [(53, some (.box [.ref 6060 0 r1004.1.durable.length, .ref 6061 0 r1004.1.pending.length])), (80, some (.mp (.int .i64) (encM MKey.ik (vO (cI .u8)) m909))), (109, some (.arr 38 2 (l910.map cS66))), (6060, some (.arr 30 1 (r1004.1.durable.map (cL (cI .u8))))), (6061, some (.arr 66 2 (r1004.1.pending.map cS66)))]) Sub.tt ?_
                 cases h
                 exact Chain.nil Sub.tt
                ·have c1049_ : (r1004.2.2 != 0) = false := Bool.eq_false_iff.2 c1049
                 refine Chain.sub (Sub.bool 202 (b := (r1004.2.2 != 0)) rfl c1049_) ?_
                 refine Chain.sub (S' := mk 219 [] [(0, .d (.lit (.int .i64 a0))), (2, .d (.sl (a2.map (cL (cI .u8))))), (3, .d (.sl (a3.map (cL cB)))), (11, .ptr 53 0 0), (13, .mref 80), (14, .ref 109 0 l910.length), (25, .d (.sl (r1004.2.1.map (cI .u8)))), (27, .d (.sl (l1035.map (cI .u8)))), (81, .d (.sl (a1.map (cL (cI .i64))))), (82, .d (.lit (.int .i64 (a1.length : Int)))), (83, .d (.lit (.int .i64 v294))), (202, .d (.lit (.bool false)))] [(53, some (.box [.ref 6060 0 r1004.1.durable.length, .ref 6061 0 r1004.1.pending.length])), (80, some (.mp (.int .i64) (encM MKey.ik (vO (cI .u8)) m909))), (109, some (.arr 38 2 (l910.map cS66))), (6060, some (.arr 30 1 (r1004.1.durable.map (cL (cI .u8))))), (6061, some (.arr 66 2 (r1004.1.pending.map cS66)))]) (by simp; exact Sub.table (by simp) (by simp)) ?_
                 refine Chain.runK [] 2 fun K hK => ?_; simp; refine hK _ _ ?_; clear hK K
                 refine Chain.sub (S' := mk 219 [] [(0, .d (.lit (.int .i64 a0))), (2, .d (.sl (a2.map (cL (cI .u8))))), (3, .d (.sl (a3.map (cL cB)))), (11, .ptr 53 0 0), (13, .mref 80), (14, .ref 109 0 l910.length), (27, .d (.sl (l1035.map (cI .u8)))), (81, .d (.sl (a1.map (cL (cI .i64))))), (82, .d (.lit (.int .i64 (a1.length : Int)))), (83, .d (.lit (.int .i64 v294))), (202, .d (.lit (.bool false))), (203, .d (.sl (r1004.2.1.map (cI .u8)))), (204, .d (.sl (l1035.map (cI .u8))))] [(53, some (.box [.ref 6060 0 r1004.1.durable.length, .ref 6061 0 r1004.1.pending.length])), (80, some (.mp (.int .i64) (encM MKey.ik (vO (cI .u8)) m909))), (109, some (.arr 38 2 (l910.map cS66))), (6060, some (.arr 30 1 (r1004.1.durable.map (cL (cI .u8))))), (6061, some (.arr 66 2 (r1004.1.pending.map cS66)))]) Sub.tt ?_
                 replace h := bsome h; obtain ⟨r1050, hr1050, h⟩ := h
                 refine Chain.callO (d := 205) (p16 N l1035 r1050 hr1050) (by simp) rfl rfl (by simp <;> rfl) (by simp <;> rfl) ent16 (by simp) ⟨by simp, by simp⟩ ?_
                 refine Chain.sub (S' := mk 219 [] [(0, .d (.lit (.int .i64 a0))), (2, .d (.sl (a2.map (cL (cI .u8))))), (3, .d (.sl (a3.map (cL cB)))), (11, .ptr 53 0 0), (13, .mref 80), (14, .ref 109 0 l910.length), (27, .d (.sl (l1035.map (cI .u8)))), (81, .d (.sl (a1.map (cL (cI .i64))))), (82, .d (.lit (.int .i64 (a1.length : Int)))), (83, .d (.lit (.int .i64 v294))), (202, .d (.lit (.bool false))), (203, .d (.sl (r1004.2.1.map (cI .u8)))), (204, .d (.sl (l1035.map (cI .u8)))), (205, .ref 205 0 r1050.length)] [(53, some (.box [.ref 6060 0 r1004.1.durable.length, .ref 6061 0 r1004.1.pending.length])), (80, some (.mp (.int .i64) (encM MKey.ik (vO (cI .u8)) m909))), (109, some (.arr 38 2 (l910.map cS66))), (205, some (.arr 5 1 (r1050.map (cI .u8)))), (6060, some (.arr 30 1 (r1004.1.durable.map (cL (cI .u8))))), (6061, some (.arr 66 2 (r1004.1.pending.map cS66)))]) (by simp; exact Sub.table (by simp) (by simp)) ?_
                 replace h := bsome h; obtain ⟨v1051, hv1051, h⟩ := h
                 have hv1051 := chkI_some hv1051
                 refine Chain.runK [] 3 fun K hK => ?_; simp [hv1051]; refine hK _ _ ?_; clear hK K
                 refine Chain.sub (S' := mk 219 [] [(0, .d (.lit (.int .i64 a0))), (2, .d (.sl (a2.map (cL (cI .u8))))), (3, .d (.sl (a3.map (cL cB)))), (11, .ptr 53 0 0), (13, .mref 80), (14, .ref 109 0 l910.length), (81, .d (.sl (a1.map (cL (cI .i64))))), (82, .d (.lit (.int .i64 (a1.length : Int)))), (83, .d (.lit (.int .i64 v294))), (202, .d (.lit (.bool false))), (203, .d (.sl (r1004.2.1.map (cI .u8)))), (204, .d (.sl (l1035.map (cI .u8)))), (205, .ref 205 0 r1050.length), (206, .d (.sl (l1035.map (cI .u8)))), (207, .d (.lit (.int .i64 (l1035.length : Int)))), (208, .d (.lit (.int .i64 v1051)))] [(53, some (.box [.ref 6060 0 r1004.1.durable.length, .ref 6061 0 r1004.1.pending.length])), (80, some (.mp (.int .i64) (encM MKey.ik (vO (cI .u8)) m909))), (109, some (.arr 38 2 (l910.map cS66))), (205, some (.arr 5 1 (r1050.map (cI .u8)))), (6060, some (.arr 30 1 (r1004.1.durable.map (cL (cI .u8))))), (6061, some (.arr 66 2 (r1004.1.pending.map cS66)))]) Sub.tt ?_
                 replace h := bsome h; obtain ⟨n1052, hn1052, h⟩ := h
                 replace hn1052 := natZ_some hn1052
                 replace h := bsome h; obtain ⟨l1053, hl1053, h⟩ := h
                 obtain ⟨hl1053a, hl1053⟩ := appL_some hl1053
                 subst hl1053
                 simp only [List.length_replicate, Nat.mul_one] at hl1053a
                 refine Chain.appZ (id := 205) (d := 209) (es := r1050.map (cI .u8)) (n := n1052) (te := ⟨_, 1, 1, _⟩) (by simp) rfl rfl rfl rfl ty30 rfl ty3 rfl ty5 rfl (by simp) rfl (by simp) (by simp) rfl hn1052 (by decide) (by decide) (by decide) rfl (by simpa using hl1053a) ?_
                 refine Chain.sub (S' := mk 219 [] [(0, .d (.lit (.int .i64 a0))), (2, .d (.sl (a2.map (cL (cI .u8))))), (3, .d (.sl (a3.map (cL cB)))), (11, .ptr 53 0 0), (13, .mref 80), (14, .ref 109 0 l910.length), (81, .d (.sl (a1.map (cL (cI .i64))))), (82, .d (.lit (.int .i64 (a1.length : Int)))), (83, .d (.lit (.int .i64 v294))), (202, .d (.lit (.bool false))), (203, .d (.sl (r1004.2.1.map (cI .u8)))), (204, .d (.sl (l1035.map (cI .u8)))), (206, .d (.sl (l1035.map (cI .u8)))), (207, .d (.lit (.int .i64 (l1035.length : Int)))), (208, .d (.lit (.int .i64 v1051))), (209, .ref 205 0 ((r1050 ++ List.replicate n1052 0).length))] [(53, some (.box [.ref 6060 0 r1004.1.durable.length, .ref 6061 0 r1004.1.pending.length])), (80, some (.mp (.int .i64) (encM MKey.ik (vO (cI .u8)) m909))), (109, some (.arr 38 2 (l910.map cS66))), (205, some (.arr 5 1 ((r1050 ++ List.replicate n1052 0).map (cI .u8)))), (6060, some (.arr 30 1 (r1004.1.durable.map (cL (cI .u8))))), (6061, some (.arr 66 2 (r1004.1.pending.map cS66)))]) (by simp; exact Sub.table (by simp) (by simp)) ?_
                 replace h := bsome h; obtain ⟨r1054, hr1054, h⟩ := h
                 refine Chain.callL (d := 210) (p15 N r1004.2.1 (r1050 ++ List.replicate n1052 0) r1054 hr1054) (by simp) rfl rfl (by simp <;> rfl) (by simp <;> rfl) ent15 (by simp <;> rfl) ?_
                 refine Chain.sub (S' := mk 219 [] [(0, .d (.lit (.int .i64 a0))), (2, .d (.sl (a2.map (cL (cI .u8))))), (3, .d (.sl (a3.map (cL cB)))), (11, .ptr 53 0 0), (13, .mref 80), (14, .ref 109 0 l910.length), (81, .d (.sl (a1.map (cL (cI .i64))))), (82, .d (.lit (.int .i64 (a1.length : Int)))), (83, .d (.lit (.int .i64 v294))), (202, .d (.lit (.bool false))), (203, .d (.sl (r1004.2.1.map (cI .u8)))), (204, .d (.sl (l1035.map (cI .u8)))), (206, .d (.sl (l1035.map (cI .u8)))), (207, .d (.lit (.int .i64 (l1035.length : Int)))), (208, .d (.lit (.int .i64 v1051))), (209, .ref 205 0 ((r1050 ++ List.replicate n1052 0).length)), (210, .d (.lit (.bool r1054)))] [(53, some (.box [.ref 6060 0 r1004.1.durable.length, .ref 6061 0 r1004.1.pending.length])), (80, some (.mp (.int .i64) (encM MKey.ik (vO (cI .u8)) m909))), (109, some (.arr 38 2 (l910.map cS66))), (205, some (.arr 5 1 ((r1050 ++ List.replicate n1052 0).map (cI .u8)))), (6060, some (.arr 30 1 (r1004.1.durable.map (cL (cI .u8))))), (6061, some (.arr 66 2 (r1004.1.pending.map cS66)))]) (by simp; exact Sub.table (by simp) (by simp)) ?_
                 refine Chain.runK [] 2 fun K hK => ?_; simp; refine hK _ _ ?_; clear hK K
                 refine Chain.sub (S' := mk 219 [] [(0, .d (.lit (.int .i64 a0))), (2, .d (.sl (a2.map (cL (cI .u8))))), (3, .d (.sl (a3.map (cL cB)))), (11, .ptr 53 0 0), (13, .mref 80), (14, .ref 109 0 l910.length), (81, .d (.sl (a1.map (cL (cI .i64))))), (82, .d (.lit (.int .i64 (a1.length : Int)))), (83, .d (.lit (.int .i64 v294))), (203, .d (.sl (r1004.2.1.map (cI .u8)))), (204, .d (.sl (l1035.map (cI .u8)))), (206, .d (.sl (l1035.map (cI .u8)))), (207, .d (.lit (.int .i64 (l1035.length : Int)))), (208, .d (.lit (.int .i64 v1051))), (209, .ref 205 0 ((r1050 ++ List.replicate n1052 0).length)), (210, .d (.lit (.bool r1054))), (211, .d (.lit (.bool (!r1054)))), (212, .d (.lit (.bool (!r1054))))] [(53, some (.box [.ref 6060 0 r1004.1.durable.length, .ref 6061 0 r1004.1.pending.length])), (80, some (.mp (.int .i64) (encM MKey.ik (vO (cI .u8)) m909))), (109, some (.arr 38 2 (l910.map cS66))), (205, some (.arr 5 1 ((r1050 ++ List.replicate n1052 0).map (cI .u8)))), (6060, some (.arr 30 1 (r1004.1.durable.map (cL (cI .u8))))), (6061, some (.arr 66 2 (r1004.1.pending.map cS66)))]) Sub.tt ?_
                 cases h
                 exact Chain.nil Sub.tt
               ·clear hj
                replace h := isome h; rcases h with ⟨c1055, h⟩ | ⟨c1055, h⟩
                ·have c1055_ : v1048 = true := c1055
                 refine AW.condT (b := v1048) rfl c1055_ ?_
                 refine AW.sub (Sub.bool 212 (b := v1048) rfl c1055_) ?_
                 refine AW.sub (S' := mk 219 [] [(0, .d (.lit (.int .i64 a0))), (2, .d (.sl (a2.map (cL (cI .u8))))), (3, .d (.sl (a3.map (cL cB)))), (11, .ptr 53 0 0), (13, .mref 80), (14, .ref 109 0 l910.length), (81, .d (.sl (a1.map (cL (cI .i64))))), (82, .d (.lit (.int .i64 (a1.length : Int)))), (83, .d (.lit (.int .i64 v294))), (212, .d (.lit (.bool true)))] [(53, some (.box [.ref 6060 0 r1004.1.durable.length, .ref 6061 0 r1004.1.pending.length])), (80, some (.mp (.int .i64) (encM MKey.ik (vO (cI .u8)) m909))), (109, some (.arr 38 2 (l910.map cS66))), (6060, some (.arr 30 1 (r1004.1.durable.map (cL (cI .u8))))), (6061, some (.arr 66 2 (r1004.1.pending.map cS66)))]) (by simp; exact Sub.table (by simp) (by simp)) ?_
                 refine AW.seqR ?_
                 refine Chain.runK [] 1 fun K hK => ?_; simp; refine hK _ _ ?_; clear hK K
                 refine Chain.sub (S' := mk 219 [] [(8, .d (.lit (.bool false)))] []) Sub.tt ?_
                 refine Chain.nil ?_
                 refine AW.ret ?_
                 cases h
                 refine thenQ_pass (by simp) ?_
                 refine blockQ.ret ?_
                 refine thenQ_pass (by simp) ?_
                 refine PostI.out (by simp) ?_
                 rintro rfl
                 refine blockQ.ret ?_
                 refine PostJ.out (by simp) ?_
                 rintro rfl
                 refine thenQ_pass (by simp) ?_
                 exact FinC.ret (by simp) (by simp)
                ·have c1055_ : v1048 = false := Bool.eq_false_iff.2 c1055
                 refine AW.condF (b := v1048) rfl c1055_ ?_
                 refine AW.sub (Sub.bool 212 (b := v1048) rfl c1055_) ?_
                 refine AW.sub (S' := mk 219 [] [(0, .d (.lit (.int .i64 a0))), (2, .d (.sl (a2.map (cL (cI .u8))))), (3, .d (.sl (a3.map (cL cB)))), (11, .ptr 53 0 0), (13, .mref 80), (14, .ref 109 0 l910.length), (81, .d (.sl (a1.map (cL (cI .i64))))), (82, .d (.lit (.int .i64 (a1.length : Int)))), (83, .d (.lit (.int .i64 v294))), (212, .d (.lit (.bool false)))] [(53, some (.box [.ref 6060 0 r1004.1.durable.length, .ref 6061 0 r1004.1.pending.length])), (80, some (.mp (.int .i64) (encM MKey.ik (vO (cI .u8)) m909))), (109, some (.arr 38 2 (l910.map cS66))), (6060, some (.arr 30 1 (r1004.1.durable.map (cL (cI .u8))))), (6061, some (.arr 66 2 (r1004.1.pending.map cS66)))]) (by simp; exact Sub.table (by simp) (by simp)) ?_
                 refine AW.skip ?_
                 refine thenQ_normal ?_
                 refine AW.seqR ?_
                 refine Chain.runK [] 1 fun K hK => ?_; simp; refine hK _ _ ?_; clear hK K
                 refine Chain.sub (S' := mk 219 [] [(0, .d (.lit (.int .i64 a0))), (2, .d (.sl (a2.map (cL (cI .u8))))), (3, .d (.sl (a3.map (cL cB)))), (11, .ptr 53 0 0), (13, .mref 80), (14, .ref 109 0 l910.length), (81, .d (.sl (a1.map (cL (cI .i64))))), (82, .d (.lit (.int .i64 (a1.length : Int)))), (83, .d (.lit (.int .i64 v294))), (213, .ptr 53 0 0)] [(53, some (.box [.ref 6060 0 r1004.1.durable.length, .ref 6061 0 r1004.1.pending.length])), (80, some (.mp (.int .i64) (encM MKey.ik (vO (cI .u8)) m909))), (109, some (.arr 38 2 (l910.map cS66))), (6060, some (.arr 30 1 (r1004.1.durable.map (cL (cI .u8))))), (6061, some (.arr 66 2 (r1004.1.pending.map cS66)))]) Sub.tt ?_
                 replace h := bsome h; obtain ⟨r1056, hr1056, h⟩ := h
                 refine Chain.callF (p7 N r1004.1 r1056 hr1056) [(53, 1000), (6060, 25000), (6061, 25001)] [53] [(1000, 53), (25000, 6060), (25001, 6061)] [(53, (.box [.ref 6060 0 r1056.1.durable.length, .ref 6061 0 r1056.1.pending.length])), (6060, (.arr 30 1 (r1056.1.durable.map (cL (cI .u8))))), (6061, (.arr 66 2 (r1056.1.pending.map cS66)))] (.d (.lit (.int .i64 r1056.2))) (by simp) rfl (by simp <;> rfl) (by simp) (by simp) (by simp) (by simp) (by simp) ent7 (by simp) (by simp) (by simp) (by simp) (by simp) (by simp) ?_
                 refine Chain.sub (S' := mk 219 [] [(0, .d (.lit (.int .i64 a0))), (2, .d (.sl (a2.map (cL (cI .u8))))), (3, .d (.sl (a3.map (cL cB)))), (11, .ptr 53 0 0), (13, .mref 80), (14, .ref 109 0 l910.length), (81, .d (.sl (a1.map (cL (cI .i64))))), (82, .d (.lit (.int .i64 (a1.length : Int)))), (83, .d (.lit (.int .i64 v294))), (213, .ptr 53 0 0), (214, .d (.lit (.int .i64 r1056.2)))] [(53, some (.box [.ref 6060 0 r1056.1.durable.length, .ref 6061 0 r1056.1.pending.length])), (80, some (.mp (.int .i64) (encM MKey.ik (vO (cI .u8)) m909))), (109, some (.arr 38 2 (l910.map cS66))), (6060, some (.arr 30 1 (r1056.1.durable.map (cL (cI .u8))))), (6061, some (.arr 66 2 (r1056.1.pending.map cS66)))]) (by simp; exact Sub.table (by simp) (by simp)) ?_
                 refine Chain.runK [] 3 fun K hK => ?_; simp; refine hK _ _ ?_; clear hK K
                 refine Chain.sub (S' := mk 219 [] [(0, .d (.lit (.int .i64 a0))), (2, .d (.sl (a2.map (cL (cI .u8))))), (3, .d (.sl (a3.map (cL cB)))), (11, .ptr 53 0 0), (13, .mref 80), (14, .ref 109 0 l910.length), (81, .d (.sl (a1.map (cL (cI .i64))))), (82, .d (.lit (.int .i64 (a1.length : Int)))), (83, .d (.lit (.int .i64 v294))), (217, .d (.lit (.bool (r1056.2 != (l910.length : Int)))))] [(53, some (.box [.ref 6060 0 r1056.1.durable.length, .ref 6061 0 r1056.1.pending.length])), (80, some (.mp (.int .i64) (encM MKey.ik (vO (cI .u8)) m909))), (109, some (.arr 38 2 (l910.map cS66))), (6060, some (.arr 30 1 (r1056.1.durable.map (cL (cI .u8))))), (6061, some (.arr 66 2 (r1056.1.pending.map cS66)))]) Sub.tt ?_
                 refine Chain.nil ?_
                 replace h := isome h; rcases h with ⟨c1057, h⟩ | ⟨c1057, h⟩
                 ·have c1057_ : (r1056.2 != (l910.length : Int)) = true := c1057
                  refine AW.condT (b := (r1056.2 != (l910.length : Int))) rfl c1057_ ?_
                  refine AW.sub (Sub.bool 217 (b := (r1056.2 != (l910.length : Int))) rfl c1057_) ?_
                  refine AW.sub (S' := mk 219 [] [(0, .d (.lit (.int .i64 a0))), (2, .d (.sl (a2.map (cL (cI .u8))))), (3, .d (.sl (a3.map (cL cB)))), (11, .ptr 53 0 0), (13, .mref 80), (14, .ref 109 0 l910.length), (81, .d (.sl (a1.map (cL (cI .i64))))), (82, .d (.lit (.int .i64 (a1.length : Int)))), (83, .d (.lit (.int .i64 v294))), (217, .d (.lit (.bool true)))] [(53, some (.box [.ref 6060 0 r1056.1.durable.length, .ref 6061 0 r1056.1.pending.length])), (80, some (.mp (.int .i64) (encM MKey.ik (vO (cI .u8)) m909))), (109, some (.arr 38 2 (l910.map cS66))), (6060, some (.arr 30 1 (r1056.1.durable.map (cL (cI .u8))))), (6061, some (.arr 66 2 (r1056.1.pending.map cS66)))]) (by simp; exact Sub.table (by simp) (by simp)) ?_
                  refine AW.seqR ?_
                  refine Chain.runK [] 1 fun K hK => ?_; simp; refine hK _ _ ?_; clear hK K
                  refine Chain.sub (S' := mk 219 [] [(8, .d (.lit (.bool false)))] []) Sub.tt ?_
                  refine Chain.nil ?_
                  refine AW.ret ?_
                  cases h
                  refine blockQ.ret ?_
                  refine thenQ_pass (by simp) ?_
                  refine PostI.out (by simp) ?_
                  rintro rfl
                  refine blockQ.ret ?_
                  refine PostJ.out (by simp) ?_
                  rintro rfl
                  refine thenQ_pass (by simp) ?_
                  exact FinC.ret (by simp) (by simp)
                 ·have c1057_ : (r1056.2 != (l910.length : Int)) = false := Bool.eq_false_iff.2 c1057
                  refine AW.condF (b := (r1056.2 != (l910.length : Int))) rfl c1057_ ?_
                  refine AW.sub (Sub.bool 217 (b := (r1056.2 != (l910.length : Int))) rfl c1057_) ?_
                  refine AW.sub (S' := mk 219 [] [(0, .d (.lit (.int .i64 a0))), (2, .d (.sl (a2.map (cL (cI .u8))))), (3, .d (.sl (a3.map (cL cB)))), (11, .ptr 53 0 0), (13, .mref 80), (14, .ref 109 0 l910.length), (81, .d (.sl (a1.map (cL (cI .i64))))), (82, .d (.lit (.int .i64 (a1.length : Int)))), (83, .d (.lit (.int .i64 v294))), (217, .d (.lit (.bool false)))] [(53, some (.box [.ref 6060 0 r1056.1.durable.length, .ref 6061 0 r1056.1.pending.length])), (80, some (.mp (.int .i64) (encM MKey.ik (vO (cI .u8)) m909))), (109, some (.arr 38 2 (l910.map cS66))), (6060, some (.arr 30 1 (r1056.1.durable.map (cL (cI .u8))))), (6061, some (.arr 66 2 (r1056.1.pending.map cS66)))]) (by simp; exact Sub.table (by simp) (by simp)) ?_
                  refine AW.skip ?_
                  refine blockQ.normal ?_
                  refine thenQ_normal ?_
                  refine AW.region ?_
                  replace h := bsome h; obtain ⟨v1058, hv1058, h⟩ := h
                  have hv1058 := chkI_some hv1058
                  refine Chain.runK [] 2 fun K hK => ?_; simp [hv1058]; refine hK _ _ ?_; clear hK K
                  refine Chain.sub (S' := mk 219 [] [(0, .d (.lit (.int .i64 a0))), (2, .d (.sl (a2.map (cL (cI .u8))))), (3, .d (.sl (a3.map (cL cB)))), (11, .ptr 53 0 0), (13, .mref 80), (14, .ref 109 0 l910.length), (81, .d (.sl (a1.map (cL (cI .i64))))), (82, .d (.lit (.int .i64 (a1.length : Int)))), (83, .d (.lit (.int .i64 v1058)))] [(53, some (.box [.ref 6060 0 r1056.1.durable.length, .ref 6061 0 r1056.1.pending.length])), (80, some (.mp (.int .i64) (encM MKey.ik (vO (cI .u8)) m909))), (109, some (.arr 38 2 (l910.map cS66))), (6060, some (.arr 30 1 (r1056.1.durable.map (cL (cI .u8))))), (6061, some (.arr 66 2 (r1056.1.pending.map cS66)))]) Sub.tt ?_
                  refine Chain.nil ?_
                  cases h
                  refine PostI.next ?_
                  exact Sub.tt
          ·have c806_ : decide (v294 < (a1.length : Int)) = false := decide_eq_false c806
           refine AW.condF (b := decide (v294 < (a1.length : Int))) rfl c806_ ?_
           refine AW.sub (Sub.bool 84 (b := decide (v294 < (a1.length : Int))) rfl c806_) ?_
           refine AW.sub (S' := mk 219 [] [(0, .d (.lit (.int .i64 a0))), (2, .d (.sl (a2.map (cL (cI .u8))))), (3, .d (.sl (a3.map (cL cB)))), (11, .ptr 53 0 0), (13, .mref 80), (14, .ref 109 0 l293.length), (81, .d (.sl (a1.map (cL (cI .i64))))), (82, .d (.lit (.int .i64 (a1.length : Int)))), (83, .d (.lit (.int .i64 v294))), (84, .d (.lit (.bool false)))] [(53, some (.box [.ref 6060 0 l290.length, .ref 6061 0 l291.length])), (80, some (.mp (.int .i64) (encM MKey.ik (vO (cI .u8)) m292))), (109, some (.arr 38 2 (l293.map cS66))), (6060, some (.arr 30 1 (l290.map (cL (cI .u8))))), (6061, some (.arr 66 2 (l291.map cS66)))]) (by simp; exact Sub.table (by simp) (by simp)) ?_
           refine AW.exit ?_
           cases h
           refine thenQ_pass (by simp) ?_
           refine PostI.out (by simp) ?_
           rintro rfl
           refine blockQ.hit ?_
           refine PostJ.next ?_
           exact Sub.tt
         ·rintro ⟨⟩ h
          refine thenQ_normal ?_
          refine AW.seqR ?_
          refine Chain.runK [] 1 fun K hK => ?_; simp; refine hK _ _ ?_; clear hK K
          refine Chain.sub (S' := mk 219 [] [(8, .d (.lit (.bool true)))] []) Sub.tt ?_
          refine Chain.nil ?_
          refine AW.ret ?_
          cases h
          exact FinC.ret (by simp) (by simp)

end Go.Proofs.Ytiikoldaocnilaa
