/- Functions of the program as functional programs; the code computes them. -/
import Derived.Test.YtdiekinmoklonacSv3
namespace Go.Proofs.Ytdiekinmoklonac
open Go.Ab Go.Rp
attribute [-simp] List.all_eq_true Array.all_toList Array.all_eq_true

/-- stemma/stemlaw5.SavepointMatchesReference -/
def d3 (N : Nat) (a0 : (List S30)) (a1 : (List (List Int))) (a2 : (List ByteArray)) : Option Bool :=
 (d4 N ([(S30.mk (ByteArray.mk #[97]) 5)] : List S30)).bind fun r1 =>
 ocase r1.1 (
  Option.bind (α := Unit) (
   if (r1.2 != 0) then (
    some ()
   ) else
   some ()
  ) fun (_ : Unit) =>
  some false
 ) fun r1o =>
 Option.bind (α := Bool) (
  if (r1.2 != 0) then (
   some true
  ) else
  (d5 N r1o (ByteArray.mk #[98])).bind fun r10 =>
  if (r10.2 != 4) then (
   some true
  ) else
  (d5 N r10.1 (ByteArray.mk #[97])).bind fun r12 =>
  some (r12.2 != 0)
 ) fun (v8 : Bool) =>
 if v8 = true then (
  some false
 ) else
 (d4 N a0).bind fun r14 =>
 ocase r14.1 (
  Option.bind (α := ((List (ByteArray × Int)) × Int)) (
   iterN (σ := ((List (ByteArray × Int)) × Int × Int)) (ρ := ((List (ByteArray × Int)) × Int)) (fun ((m41, v42, v43) : ((List (ByteArray × Int)) × Int × Int)) =>
    Option.bind (α := Bool) (
     if v43 < (a0.length : Int) then (
      some (v42 == 0)
     ) else
     some false
    ) fun (v112 : Bool) =>
    if v112 = true then (
     Option.bind (α := Bool) (
      if v43 > 0 then (
       (chkI (v43 - 1)).bind fun v123 =>
       (idx a0 v123).bind fun x124 =>
       (idx a0 v43).bind fun x126 =>
       some (!Op.bytesLess x124.Key.toList x126.Key.toList)
      ) else
      some false
     ) fun (v121 : Bool) =>
     Option.bind (α := Int) (
      if v121 = true then (
       some 6
      ) else
      (idx a0 v43).bind fun x135 =>
      if (x135.Key.size : Int) > 24 then (
       some 2
      ) else
      if ((m41.length : Int) == 40) then (
       some 18
      ) else
      some v42
     ) fun (v133 : Int) =>
     (idx a0 v43).bind fun x139 =>
     (chkI (v43 + 1)).bind fun v141 =>
     some (.inl ((mput m41 x139.Key x139.Value), v133, v141))
    ) else
    some (.inr (m41, v42))
   ) N (([] : List (ByteArray × Int)), 0, 0)
  ) fun ((_m109, v110) : ((List (ByteArray × Int)) × Int)) =>
  if (v110 != 0) then (
   Option.bind (α := Bool) (
    if (r14.2 == v110) then (
     some true
    ) else
    some false
   ) fun (v144 : Bool) =>
   some v144
  ) else
  Option.bind (α := Unit) (
   if (r14.2 != 0) then (
    some ()
   ) else
   some ()
  ) fun (_ : Unit) =>
  some false
 ) fun r14o =>
 Option.bind (α := ((List (ByteArray × Int)) × Int)) (
  iterN (σ := ((List (ByteArray × Int)) × Int × Int)) (ρ := ((List (ByteArray × Int)) × Int)) (fun ((m174, v175, v176) : ((List (ByteArray × Int)) × Int × Int)) =>
   Option.bind (α := Bool) (
    if v176 < (a0.length : Int) then (
     some (v175 == 0)
    ) else
    some false
   ) fun (v245 : Bool) =>
   if v245 = true then (
    Option.bind (α := Bool) (
     if v176 > 0 then (
      (chkI (v176 - 1)).bind fun v256 =>
      (idx a0 v256).bind fun x257 =>
      (idx a0 v176).bind fun x259 =>
      some (!Op.bytesLess x257.Key.toList x259.Key.toList)
     ) else
     some false
    ) fun (v254 : Bool) =>
    Option.bind (α := Int) (
     if v254 = true then (
      some 6
     ) else
     (idx a0 v176).bind fun x268 =>
     if (x268.Key.size : Int) > 24 then (
      some 2
     ) else
     if ((m174.length : Int) == 40) then (
      some 18
     ) else
     some v175
    ) fun (v266 : Int) =>
    (idx a0 v176).bind fun x272 =>
    (chkI (v176 + 1)).bind fun v274 =>
    some (.inl ((mput m174 x272.Key x272.Value), v266, v274))
   ) else
   some (.inr (m174, v175))
  ) N (([] : List (ByteArray × Int)), 0, 0)
 ) fun ((m242, v243) : ((List (ByteArray × Int)) × Int)) =>
 if (v243 != 0) then (
  Option.bind (α := Unit) (
   if (r14.2 == v243) then (
    some ()
   ) else
   some ()
  ) fun (_ : Unit) =>
  some false
 ) else
 Option.bind (α := Bool) (
  if (r14.2 != 0) then (
   some true
  ) else
  some false
 ) fun (v279 : Bool) =>
 if v279 = true then (
  some false
 ) else
 bindO (β := Unit) (ρ := Bool) (
  iterN (σ := ((List S30) × (List (List S30)) × (List (ByteArray × Int)) × (List (List (ByteArray × Int))) × Int)) (ρ := (Out Unit Bool)) (fun ((l381, l382, m383, l384, v385) : ((List S30) × (List (List S30)) × (List (ByteArray × Int)) × (List (List (ByteArray × Int))) × Int)) =>
   if v385 < (a1.length : Int) then (
    (idx a1 v385).bind fun x608 =>
    (d7 N x608 1).bind fun r610 =>
    (d6 N a2 r610).bind fun r611 =>
    (d7 N x608 2).bind fun r612 =>
    letv ((mget m383 r611).getD 0) fun _v613 =>
    letv (mget m383 r611).isSome fun v614 =>
    (d7 N x608 0).bind fun r615 =>
    bindO (β := ((List S30) × (List (List S30)) × (List (ByteArray × Int)) × (List (List (ByteArray × Int))) × Int × Int)) (ρ := (((List S30) × (List (List S30)) × (List (ByteArray × Int)) × (List (List (ByteArray × Int))) × Int) ⊕ (Out Unit Bool))) (
     if (r615 == 1) then (
      (d8 N (S47.mk l381 l382) r611 r612).bind fun r666 =>
      if (r611.size : Int) > 24 then (
       some (.go (r666.1.entries, r666.1.savepoints, m383, l384, r666.2, 2))
      ) else
      Option.bind (α := Bool) (
       if (!v614) = true then (
        some ((m383.length : Int) == 40)
       ) else
       some false
      ) fun (v669 : Bool) =>
      if v669 = true then (
       some (.go (r666.1.entries, r666.1.savepoints, m383, l384, r666.2, 18))
      ) else
      some (.go (r666.1.entries, r666.1.savepoints, (mput m383 r611 r612), l384, r666.2, 0))
     ) else
     if (r615 == 2) then (
      (d5 N (S47.mk l381 l382) r611).bind fun r673 =>
      if v614 = true then (
       some (.go (r673.1.entries, r673.1.savepoints, (Go.Ab.mdel m383 r611), l384, r673.2, 0))
      ) else
      some (.go (r673.1.entries, r673.1.savepoints, m383, l384, r673.2, 4))
     ) else
     if (r615 == 3) then (
      (d9 N (S47.mk l381 l382)).bind fun r676 =>
      if (l384.length : Int) < 20 then (
       (appL 8 l384 [m383]).bind fun _l678 =>
       if (r676.2.1 != ((l384 ++ [m383]).length : Int)) then (
        some (.ret (.inr (.ret false)))
       ) else
       some (.go (r676.1.entries, r676.1.savepoints, m383, (l384 ++ [m383]), r676.2.2, 0))
      ) else
      some (.go (r676.1.entries, r676.1.savepoints, m383, l384, r676.2.2, 18))
     ) else
     Option.bind (α := Bool) (
      if (r615 == 4) then (
       some true
      ) else
      some (r615 == 5)
     ) fun (v681 : Bool) =>
     if v681 = true then (
      (d7 N x608 0).bind fun r684 =>
      Option.bind (α := ((List S30) × (List (List S30)) × Int × Bool)) (
       if (r684 == 4) then (
        (d11 N (S47.mk l381 l382) r612).bind fun r693 =>
        some (r693.1.entries, r693.1.savepoints, r693.2, true)
       ) else
       (d12 N (S47.mk l381 l382) r612).bind fun r694 =>
       some (r694.1.entries, r694.1.savepoints, r694.2, false)
      ) fun ((l688, l689, v690, v691) : ((List S30) × (List (List S30)) × Int × Bool)) =>
      Option.bind (α := Bool) (
       if r612 ≥ 1 then (
        some (decide (r612 ≤ (l384.length : Int)))
       ) else
       some false
      ) fun (v696 : Bool) =>
      if v696 = true then (
       if v691 = true then (
        (chkI (r612 - 1)).bind fun v700 =>
        (idx l384 v700).bind fun x701 =>
        (natI r612 l384.length).bind fun n703 =>
        letv (l384.take n703) fun l704 =>
        some (.go (l688, l689, x701, l704, v690, 0))
       ) else
       (chkI (r612 - 1)).bind fun v705 =>
       (natI v705 l384.length).bind fun n706 =>
       letv (l384.take n706) fun l707 =>
       some (.go (l688, l689, m383, l707, v690, 0))
      ) else
      some (.go (l688, l689, m383, l384, v690, 4))
     ) else
     some (.go (l381, l382, m383, l384, 0, 0))
    ) fun ((l659, l660, m661, l662, v663, v664) : ((List S30) × (List (List S30)) × (List (ByteArray × Int)) × (List (List (ByteArray × Int))) × Int × Int)) =>
    Option.bind (α := Bool) (
     if (v663 != v664) then (
      some true
     ) else
     (d13 N (S47.mk l659 l660) m661 r611).bind fun r712 =>
     some (!r712)
    ) fun (v710 : Bool) =>
    if v710 = true then (
     some (.inr (.ret false))
    ) else
    (chkI (v385 + 1)).bind fun v714 =>
    some (.inl (l659, l660, m661, l662, v714))
   ) else
   some (.inr (.go ()))
  ) N (r14o.entries, r14o.savepoints, m242, ([] : List (List (ByteArray × Int))), 0)
 ) fun (_ : Unit) =>
 some true
set_option maxRecDepth 100000 in
set_option maxHeartbeats 4000000 in
theorem p3 (N : Nat) (a0 : (List S30)) (a1 : (List (List Int))) (a2 : (List ByteArray)) (r : Bool) (h : d3 N a0 a1 a2 = some r) : FunC Try.prog 3 [.d (.sl (a0.map cS30)), .d (.sl (a1.map (cL (cI .i64)))), .d (.sl (a2.map cS))] (.d (.lit (.bool r))) := by
 unfold d3 at h
 refine FunC.enter 234 [(0, .d (.sl (a0.map cS30))), (1, .d (.sl (a1.map (cL (cI .i64))))), (2, .d (.sl (a2.map cS)))] (by simp) Try.func3 rfl (of_decide_eq_true rfl) rfl rfl ?_
 refine AW.seqR ?_
 refine Chain.runK [] 1 fun K hK => ?_; simp; refine hK _ _ ?_; clear hK K
 refine Chain.sub (S' := mk 234 [] [(0, .d (.sl (a0.map cS30))), (1, .d (.sl (a1.map (cL (cI .i64))))), (2, .d (.sl (a2.map cS)))] []) Sub.tt ?_
 refine Chain.nil ?_
 refine AW.seq ?_
 refine AW.seqR ?_
 refine Chain.runK [] 2 fun K hK => ?_; simp; refine hK _ _ ?_; clear hK K
 refine Chain.sub (S' := mk 234 [] [(0, .d (.sl (a0.map cS30))), (1, .d (.sl (a1.map (cL (cI .i64))))), (2, .d (.sl (a2.map cS))), (28, .ref 28 0 (([(S30.mk (ByteArray.mk #[97]) 5)] : List S30).length))] [(28, some (.arr 30 2 (([(S30.mk (ByteArray.mk #[97]) 5)] : List S30).map cS30)))]) Sub.tt ?_
 refine Chain.sub (Sub.freeze 28 rfl) ?_
 refine Chain.sub (S' := mk 234 [] [(0, .d (.sl (a0.map cS30))), (1, .d (.sl (a1.map (cL (cI .i64))))), (2, .d (.sl (a2.map cS))), (28, .d (.sl (([(S30.mk (ByteArray.mk #[97]) 5)] : List S30).map cS30)))] []) (by simp; exact Sub.table (by simp) (by simp)) ?_
 replace h := bsome h; obtain ⟨r1, hr1, h⟩ := h
 have Fr1 := p4 N ([(S30.mk (ByteArray.mk #[97]) 5)] : List S30) r1 hr1
 rcases osome h with ⟨hr1o, h⟩ | ⟨r1o, hr1o, h⟩
 ·simp only [hr1o, List.append_nil] at Fr1
  refine Chain.callF Fr1 [] [] [] [] (.tup [.d (.lit (.pointer none)), .d (.lit (.int .i64 r1.2))]) (by simp) rfl (by simp <;> rfl) (by simp) (by simp) (by simp) (by simp) (by simp) ent4 (by simp) (by simp) (by simp) (by simp) (by simp) (by simp) ?_
  refine Chain.sub (S' := mk 234 [] [(0, .d (.sl (a0.map cS30))), (1, .d (.sl (a1.map (cL (cI .i64))))), (2, .d (.sl (a2.map cS))), (28, .d (.sl (([(S30.mk (ByteArray.mk #[97]) 5)] : List S30).map cS30))), (29, .tup [.d (.lit (.pointer none)), .d (.lit (.int .i64 r1.2))])] []) (by simp; exact Sub.table (by simp) (by simp)) ?_
  refine Chain.runK [] 5 fun K hK => ?_; simp; refine hK _ _ ?_; clear hK K
  refine Chain.sub (S' := mk 234 [] [(0, .d (.sl (a0.map cS30))), (1, .d (.sl (a1.map (cL (cI .i64))))), (2, .d (.sl (a2.map cS))), (7, .d (.lit (.pointer none))), (8, .d (.lit (.int .i64 r1.2)))] []) Sub.tt ?_
  refine Chain.nil ?_
  replace h := bsome h; obtain ⟨⟨⟩, hj, h⟩ := h
  refine AW.cutR (mk 234 [] [(0, .d (.sl (a0.map cS30))), (1, .d (.sl (a1.map (cL (cI .i64))))), (2, .d (.sl (a2.map cS))), (47, .d (.lit (.bool true)))] []) ?_ ?_
  ·clear h; have h := hj; clear hj
   refine Chain.runK [] 3 fun K hK => ?_; simp; refine hK _ _ ?_; clear hK K
   refine Chain.sub (S' := mk 234 [] [(0, .d (.sl (a0.map cS30))), (1, .d (.sl (a1.map (cL (cI .i64))))), (2, .d (.sl (a2.map cS))), (7, .d (.lit (.pointer none))), (34, .d (.lit (.bool (r1.2 != 0))))] []) Sub.tt ?_
   replace h := isome h; rcases h with ⟨c3, h⟩ | ⟨c3, h⟩
   ·have c3_ : (r1.2 != 0) = true := c3
    refine Chain.sub (Sub.bool 34 (b := (r1.2 != 0)) rfl c3_) ?_
    refine Chain.sub (S' := mk 234 [] [(0, .d (.sl (a0.map cS30))), (1, .d (.sl (a1.map (cL (cI .i64))))), (2, .d (.sl (a2.map cS))), (7, .d (.lit (.pointer none))), (34, .d (.lit (.bool true)))] []) (by simp; exact Sub.table (by simp) (by simp)) ?_
    refine Chain.runK [] 13 fun K hK => ?_; simp; refine hK _ _ ?_; clear hK K
    refine Chain.sub (S' := mk 234 [] [(0, .d (.sl (a0.map cS30))), (1, .d (.sl (a1.map (cL (cI .i64))))), (2, .d (.sl (a2.map cS))), (47, .d (.lit (.bool true)))] []) Sub.tt ?_
    cases h
    exact Chain.nil Sub.tt
   ·have c3_ : (r1.2 != 0) = false := Bool.eq_false_iff.2 c3
    refine Chain.sub (Sub.bool 34 (b := (r1.2 != 0)) rfl c3_) ?_
    refine Chain.sub (S' := mk 234 [] [(0, .d (.sl (a0.map cS30))), (1, .d (.sl (a1.map (cL (cI .i64))))), (2, .d (.sl (a2.map cS))), (7, .d (.lit (.pointer none))), (34, .d (.lit (.bool false)))] []) (by simp; exact Sub.table (by simp) (by simp)) ?_
    refine Chain.runK [] 13 fun K hK => ?_; simp; refine hK _ _ ?_; clear hK K
    refine Chain.sub (S' := mk 234 [] [(0, .d (.sl (a0.map cS30))), (1, .d (.sl (a1.map (cL (cI .i64))))), (2, .d (.sl (a2.map cS))), (47, .d (.lit (.bool true)))] []) Sub.tt ?_
    cases h
    exact Chain.nil Sub.tt
  ·clear hj
   refine AW.condK fun K1 K2 k1 k2 => ?_; simp; refine k1 ?_; clear k1 k2 K1 K2
   refine AW.seqR ?_
   refine Chain.runK [] 1 fun K hK => ?_; simp; refine hK _ _ ?_; clear hK K
   refine Chain.sub (S' := mk 234 [] [(6, .d (.lit (.bool false)))] []) Sub.tt ?_
   refine Chain.nil ?_
   refine AW.ret ?_
   cases h
   refine thenQ_pass (by simp) ?_
   exact FinC.ret (by simp) (by simp)
 ·simp only [hr1o, List.nil_append] at Fr1
  refine Chain.callF Fr1 [] [] [(1000, 29), (25000, 5580), (25001, 5581)] [(29, (.box [.ref 5580 0 r1o.entries.length, .ref 5581 0 r1o.savepoints.length])), (5580, (.arr 30 2 (r1o.entries.map cS30))), (5581, (.arr 22 1 (r1o.savepoints.map (cL cS30))))] (.tup [.ptr 29 0 0, .d (.lit (.int .i64 r1.2))]) (by simp) rfl (by simp <;> rfl) (by simp) (by simp) (by simp) (by simp) (by simp) ent4 (by simp) (by simp) (by simp) (by simp) (by simp) (by simp) ?_
  refine Chain.sub (S' := mk 234 [] [(0, .d (.sl (a0.map cS30))), (1, .d (.sl (a1.map (cL (cI .i64))))), (2, .d (.sl (a2.map cS))), (28, .d (.sl (([(S30.mk (ByteArray.mk #[97]) 5)] : List S30).map cS30))), (29, .tup [.ptr 29 0 0, .d (.lit (.int .i64 r1.2))])] [(29, some (.box [.ref 5580 0 r1o.entries.length, .ref 5581 0 r1o.savepoints.length])), (5580, some (.arr 30 2 (r1o.entries.map cS30))), (5581, some (.arr 22 1 (r1o.savepoints.map (cL cS30))))]) (by simp; exact Sub.table (by simp) (by simp)) ?_
  refine Chain.runK [] 5 fun K hK => ?_; simp; refine hK _ _ ?_; clear hK K
  refine Chain.sub (S' := mk 234 [] [(0, .d (.sl (a0.map cS30))), (1, .d (.sl (a1.map (cL (cI .i64))))), (2, .d (.sl (a2.map cS))), (7, .ptr 29 0 0), (8, .d (.lit (.int .i64 r1.2)))] [(29, some (.box [.ref 5580 0 r1o.entries.length, .ref 5581 0 r1o.savepoints.length])), (5580, some (.arr 30 2 (r1o.entries.map cS30))), (5581, some (.arr 22 1 (r1o.savepoints.map (cL cS30))))]) Sub.tt ?_
  refine Chain.nil ?_
  replace h := bsome h; obtain ⟨v8, hj, h⟩ := h
  refine AW.cutR (mk 234 [] [(0, .d (.sl (a0.map cS30))), (1, .d (.sl (a1.map (cL (cI .i64))))), (2, .d (.sl (a2.map cS))), (47, .d (.lit (.bool v8)))] []) ?_ ?_
  ·clear h; have h := hj; clear hj
   refine Chain.runK [] 3 fun K hK => ?_; simp; refine hK _ _ ?_; clear hK K
   refine Chain.sub (S' := mk 234 [] [(0, .d (.sl (a0.map cS30))), (1, .d (.sl (a1.map (cL (cI .i64))))), (2, .d (.sl (a2.map cS))), (7, .ptr 29 0 0), (34, .d (.lit (.bool (r1.2 != 0))))] [(29, some (.box [.ref 5580 0 r1o.entries.length, .ref 5581 0 r1o.savepoints.length])), (5580, some (.arr 30 2 (r1o.entries.map cS30))), (5581, some (.arr 22 1 (r1o.savepoints.map (cL cS30))))]) Sub.tt ?_
   replace h := isome h; rcases h with ⟨c9, h⟩ | ⟨c9, h⟩
   ·have c9_ : (r1.2 != 0) = true := c9
    refine Chain.sub (Sub.bool 34 (b := (r1.2 != 0)) rfl c9_) ?_
    refine Chain.sub (S' := mk 234 [] [(0, .d (.sl (a0.map cS30))), (1, .d (.sl (a1.map (cL (cI .i64))))), (2, .d (.sl (a2.map cS))), (7, .ptr 29 0 0), (34, .d (.lit (.bool true)))] [(29, some (.box [.ref 5580 0 r1o.entries.length, .ref 5581 0 r1o.savepoints.length])), (5580, some (.arr 30 2 (r1o.entries.map cS30))), (5581, some (.arr 22 1 (r1o.savepoints.map (cL cS30))))]) (by simp; exact Sub.table (by simp) (by simp)) ?_
    refine Chain.runK [] 13 fun K hK => ?_; simp; refine hK _ _ ?_; clear hK K
    refine Chain.sub (S' := mk 234 [] [(0, .d (.sl (a0.map cS30))), (1, .d (.sl (a1.map (cL (cI .i64))))), (2, .d (.sl (a2.map cS))), (47, .d (.lit (.bool true)))] []) Sub.tt ?_
    cases h
    exact Chain.nil Sub.tt
   ·have c9_ : (r1.2 != 0) = false := Bool.eq_false_iff.2 c9
    refine Chain.sub (Sub.bool 34 (b := (r1.2 != 0)) rfl c9_) ?_
    refine Chain.sub (S' := mk 234 [] [(0, .d (.sl (a0.map cS30))), (1, .d (.sl (a1.map (cL (cI .i64))))), (2, .d (.sl (a2.map cS))), (7, .ptr 29 0 0), (34, .d (.lit (.bool false)))] [(29, some (.box [.ref 5580 0 r1o.entries.length, .ref 5581 0 r1o.savepoints.length])), (5580, some (.arr 30 2 (r1o.entries.map cS30))), (5581, some (.arr 22 1 (r1o.savepoints.map (cL cS30))))]) (by simp; exact Sub.table (by simp) (by simp)) ?_
    refine Chain.runK [] 5 fun K hK => ?_; simp; refine hK _ _ ?_; clear hK K
    refine Chain.sub (S' := mk 234 [] [(0, .d (.sl (a0.map cS30))), (1, .d (.sl (a1.map (cL (cI .i64))))), (2, .d (.sl (a2.map cS))), (7, .ptr 29 0 0), (38, .d (.lit (.bool false))), (39, .ptr 29 0 0)] [(29, some (.box [.ref 5580 0 r1o.entries.length, .ref 5581 0 r1o.savepoints.length])), (5580, some (.arr 30 2 (r1o.entries.map cS30))), (5581, some (.arr 22 1 (r1o.savepoints.map (cL cS30))))]) Sub.tt ?_
    replace h := bsome h; obtain ⟨r10, hr10, h⟩ := h
    refine Chain.callF (p5 N r1o (ByteArray.mk #[98]) r10 hr10) [(29, 1000), (5580, 25000), (5581, 25001)] [29] [(1000, 29), (25000, 5580), (25001, 5581)] [(29, (.box [.ref 5580 0 r10.1.entries.length, .ref 5581 0 r10.1.savepoints.length])), (5580, (.arr 30 2 (r10.1.entries.map cS30))), (5581, (.arr 22 1 (r10.1.savepoints.map (cL cS30))))] (.d (.lit (.int .i64 r10.2))) (by simp) rfl (by simp <;> rfl) (by simp) (by simp) (by simp) (by simp) (by simp) ent5 (by simp) (by simp) (by simp) (by simp) (by simp) (by simp) ?_
    refine Chain.sub (S' := mk 234 [] [(0, .d (.sl (a0.map cS30))), (1, .d (.sl (a1.map (cL (cI .i64))))), (2, .d (.sl (a2.map cS))), (7, .ptr 29 0 0), (38, .d (.lit (.bool false))), (39, .ptr 29 0 0), (40, .d (.lit (.int .i64 r10.2)))] [(29, some (.box [.ref 5580 0 r10.1.entries.length, .ref 5581 0 r10.1.savepoints.length])), (5580, some (.arr 30 2 (r10.1.entries.map cS30))), (5581, some (.arr 22 1 (r10.1.savepoints.map (cL cS30))))]) (by simp; exact Sub.table (by simp) (by simp)) ?_
    refine Chain.runK [] 3 fun K hK => ?_; simp; refine hK _ _ ?_; clear hK K
    refine Chain.sub (S' := mk 234 [] [(0, .d (.sl (a0.map cS30))), (1, .d (.sl (a1.map (cL (cI .i64))))), (2, .d (.sl (a2.map cS))), (7, .ptr 29 0 0), (43, .d (.lit (.bool (r10.2 != 4))))] [(29, some (.box [.ref 5580 0 r10.1.entries.length, .ref 5581 0 r10.1.savepoints.length])), (5580, some (.arr 30 2 (r10.1.entries.map cS30))), (5581, some (.arr 22 1 (r10.1.savepoints.map (cL cS30))))]) Sub.tt ?_
    replace h := isome h; rcases h with ⟨c11, h⟩ | ⟨c11, h⟩
    ·have c11_ : (r10.2 != 4) = true := c11
     refine Chain.sub (Sub.bool 43 (b := (r10.2 != 4)) rfl c11_) ?_
     refine Chain.sub (S' := mk 234 [] [(0, .d (.sl (a0.map cS30))), (1, .d (.sl (a1.map (cL (cI .i64))))), (2, .d (.sl (a2.map cS))), (7, .ptr 29 0 0), (43, .d (.lit (.bool true)))] [(29, some (.box [.ref 5580 0 r10.1.entries.length, .ref 5581 0 r10.1.savepoints.length])), (5580, some (.arr 30 2 (r10.1.entries.map cS30))), (5581, some (.arr 22 1 (r10.1.savepoints.map (cL cS30))))]) (by simp; exact Sub.table (by simp) (by simp)) ?_
     refine Chain.runK [] 4 fun K hK => ?_; simp; refine hK _ _ ?_; clear hK K
     refine Chain.sub (S' := mk 234 [] [(0, .d (.sl (a0.map cS30))), (1, .d (.sl (a1.map (cL (cI .i64))))), (2, .d (.sl (a2.map cS))), (47, .d (.lit (.bool true)))] []) Sub.tt ?_
     cases h
     exact Chain.nil Sub.tt
    ·have c11_ : (r10.2 != 4) = false := Bool.eq_false_iff.2 c11
     refine Chain.sub (Sub.bool 43 (b := (r10.2 != 4)) rfl c11_) ?_
     refine Chain.sub (S' := mk 234 [] [(0, .d (.sl (a0.map cS30))), (1, .d (.sl (a1.map (cL (cI .i64))))), (2, .d (.sl (a2.map cS))), (7, .ptr 29 0 0), (43, .d (.lit (.bool false)))] [(29, some (.box [.ref 5580 0 r10.1.entries.length, .ref 5581 0 r10.1.savepoints.length])), (5580, some (.arr 30 2 (r10.1.entries.map cS30))), (5581, some (.arr 22 1 (r10.1.savepoints.map (cL cS30))))]) (by simp; exact Sub.table (by simp) (by simp)) ?_
     refine Chain.runK [] 1 fun K hK => ?_; simp; refine hK _ _ ?_; clear hK K
     refine Chain.sub (S' := mk 234 [] [(0, .d (.sl (a0.map cS30))), (1, .d (.sl (a1.map (cL (cI .i64))))), (2, .d (.sl (a2.map cS))), (43, .d (.lit (.bool false))), (44, .ptr 29 0 0)] [(29, some (.box [.ref 5580 0 r10.1.entries.length, .ref 5581 0 r10.1.savepoints.length])), (5580, some (.arr 30 2 (r10.1.entries.map cS30))), (5581, some (.arr 22 1 (r10.1.savepoints.map (cL cS30))))]) Sub.tt ?_
     replace h := bsome h; obtain ⟨r12, hr12, h⟩ := h
     refine Chain.callF (p5 N r10.1 (ByteArray.mk #[97]) r12 hr12) [(29, 1000), (5580, 25000), (5581, 25001)] [29] [(1000, 29), (25000, 5580), (25001, 5581)] [(29, (.box [.ref 5580 0 r12.1.entries.length, .ref 5581 0 r12.1.savepoints.length])), (5580, (.arr 30 2 (r12.1.entries.map cS30))), (5581, (.arr 22 1 (r12.1.savepoints.map (cL cS30))))] (.d (.lit (.int .i64 r12.2))) (by simp) rfl (by simp <;> rfl) (by simp) (by simp) (by simp) (by simp) (by simp) ent5 (by simp) (by simp) (by simp) (by simp) (by simp) (by simp) ?_
     refine Chain.sub (S' := mk 234 [] [(0, .d (.sl (a0.map cS30))), (1, .d (.sl (a1.map (cL (cI .i64))))), (2, .d (.sl (a2.map cS))), (43, .d (.lit (.bool false))), (44, .ptr 29 0 0), (45, .d (.lit (.int .i64 r12.2)))] [(29, some (.box [.ref 5580 0 r12.1.entries.length, .ref 5581 0 r12.1.savepoints.length])), (5580, some (.arr 30 2 (r12.1.entries.map cS30))), (5581, some (.arr 22 1 (r12.1.savepoints.map (cL cS30))))]) (by simp; exact Sub.table (by simp) (by simp)) ?_
     refine Chain.runK [] 2 fun K hK => ?_; simp; refine hK _ _ ?_; clear hK K
     refine Chain.sub (S' := mk 234 [] [(0, .d (.sl (a0.map cS30))), (1, .d (.sl (a1.map (cL (cI .i64))))), (2, .d (.sl (a2.map cS))), (47, .d (.lit (.bool (r12.2 != 0))))] []) Sub.tt ?_
     cases h
     exact Chain.nil Sub.tt
  ·clear hj
   replace h := isome h; rcases h with ⟨c13, h⟩ | ⟨c13, h⟩
   ·have c13_ : v8 = true := c13
    refine AW.condT (b := v8) rfl c13_ ?_
    refine AW.sub (Sub.bool 47 (b := v8) rfl c13_) ?_
    refine AW.sub (S' := mk 234 [] [(0, .d (.sl (a0.map cS30))), (1, .d (.sl (a1.map (cL (cI .i64))))), (2, .d (.sl (a2.map cS))), (47, .d (.lit (.bool true)))] []) (by simp; exact Sub.table (by simp) (by simp)) ?_
    refine AW.seqR ?_
    refine Chain.runK [] 1 fun K hK => ?_; simp; refine hK _ _ ?_; clear hK K
    refine Chain.sub (S' := mk 234 [] [(6, .d (.lit (.bool false)))] []) Sub.tt ?_
    refine Chain.nil ?_
    refine AW.ret ?_
    cases h
    refine thenQ_pass (by simp) ?_
    exact FinC.ret (by simp) (by simp)
   ·have c13_ : v8 = false := Bool.eq_false_iff.2 c13
    refine AW.condF (b := v8) rfl c13_ ?_
    refine AW.sub (Sub.bool 47 (b := v8) rfl c13_) ?_
    refine AW.sub (S' := mk 234 [] [(0, .d (.sl (a0.map cS30))), (1, .d (.sl (a1.map (cL (cI .i64))))), (2, .d (.sl (a2.map cS))), (47, .d (.lit (.bool false)))] []) (by simp; exact Sub.table (by simp) (by simp)) ?_
    refine AW.skip ?_
    refine thenQ_normal ?_
    refine AW.seqR ?_
    refine Chain.runK [] 1 fun K hK => ?_; simp; refine hK _ _ ?_; clear hK K
    refine Chain.sub (S' := mk 234 [] [(0, .d (.sl (a0.map cS30))), (1, .d (.sl (a1.map (cL (cI .i64))))), (2, .d (.sl (a2.map cS))), (49, .d (.sl (a0.map cS30)))] []) Sub.tt ?_
    replace h := bsome h; obtain ⟨r14, hr14, h⟩ := h
    have Fr14 := p4 N a0 r14 hr14
    rcases osome h with ⟨hr14o, h⟩ | ⟨r14o, hr14o, h⟩
    ·simp only [hr14o, List.append_nil] at Fr14
     refine Chain.callF Fr14 [] [] [] [] (.tup [.d (.lit (.pointer none)), .d (.lit (.int .i64 r14.2))]) (by simp) rfl (by simp <;> rfl) (by simp) (by simp) (by simp) (by simp) (by simp) ent4 (by simp) (by simp) (by simp) (by simp) (by simp) (by simp) ?_
     refine Chain.sub (S' := mk 234 [] [(0, .d (.sl (a0.map cS30))), (1, .d (.sl (a1.map (cL (cI .i64))))), (2, .d (.sl (a2.map cS))), (49, .d (.sl (a0.map cS30))), (50, .tup [.d (.lit (.pointer none)), .d (.lit (.int .i64 r14.2))])] []) (by simp; exact Sub.table (by simp) (by simp)) ?_
     refine Chain.runK [] 5 fun K hK => ?_; simp; refine hK _ _ ?_; clear hK K
     refine Chain.sub (S' := mk 234 [] [(0, .d (.sl (a0.map cS30))), (1, .d (.sl (a1.map (cL (cI .i64))))), (2, .d (.sl (a2.map cS))), (9, .d (.lit (.pointer none))), (10, .d (.lit (.int .i64 r14.2)))] []) Sub.tt ?_
     refine Chain.nil ?_
     refine AW.seqR ?_
     refine Chain.mmake .string (by simp) rfl rfl (by simp) ?_
     refine Chain.sub (S' := mk 234 [] [(0, .d (.sl (a0.map cS30))), (1, .d (.sl (a1.map (cL (cI .i64))))), (2, .d (.sl (a2.map cS))), (9, .d (.lit (.pointer none))), (10, .d (.lit (.int .i64 r14.2))), (53, .mref 53)] [(53, some (.mp .string (encM MKey.sk (vI .i64) ([] : List (ByteArray × Int)))))]) (by simp; exact Sub.table (by simp) (by simp [encM_nil])) ?_
     refine Chain.runK [] 1 fun K hK => ?_; simp; refine hK _ _ ?_; clear hK K
     refine Chain.sub (S' := mk 234 [] [(0, .d (.sl (a0.map cS30))), (1, .d (.sl (a1.map (cL (cI .i64))))), (2, .d (.sl (a2.map cS))), (9, .d (.lit (.pointer none))), (10, .d (.lit (.int .i64 r14.2))), (11, .mref 53)] [(53, some (.mp .string (encM MKey.sk (vI .i64) ([] : List (ByteArray × Int)))))]) Sub.tt ?_
     refine Chain.nil ?_
     refine AW.seqR ?_
     refine Chain.runK [] 1 fun K hK => ?_; simp; refine hK _ _ ?_; clear hK K
     refine Chain.sub (S' := mk 234 [] [(0, .d (.sl (a0.map cS30))), (1, .d (.sl (a1.map (cL (cI .i64))))), (2, .d (.sl (a2.map cS))), (9, .d (.lit (.pointer none))), (10, .d (.lit (.int .i64 r14.2))), (11, .mref 53), (12, .d (.lit (.int .i64 0)))] [(53, some (.mp .string (encM MKey.sk (vI .i64) ([] : List (ByteArray × Int)))))]) Sub.tt ?_
     refine Chain.nil ?_
     refine AW.seq ?_
     refine AW.seqR ?_
     refine Chain.runK [] 1 fun K hK => ?_; simp; refine hK _ _ ?_; clear hK K
     refine Chain.sub (S' := mk 234 [] [(0, .d (.sl (a0.map cS30))), (1, .d (.sl (a1.map (cL (cI .i64))))), (2, .d (.sl (a2.map cS))), (9, .d (.lit (.pointer none))), (10, .d (.lit (.int .i64 r14.2))), (11, .mref 53), (12, .d (.lit (.int .i64 0))), (13, .d (.lit (.int .i64 0)))] [(53, some (.mp .string (encM MKey.sk (vI .i64) ([] : List (ByteArray × Int)))))]) Sub.tt ?_
     refine Chain.nil ?_
     refine AW.lastN (fun ((m109, v110) : ((List (ByteArray × Int)) × Int)) => mk 234 [] [(1, .d (.sl (a1.map (cL (cI .i64))))), (2, .d (.sl (a2.map cS))), (9, .d (.lit (.pointer none))), (10, .d (.lit (.int .i64 r14.2))), (11, .mref 53), (12, .d (.lit (.int .i64 v110)))] [(53, some (.mp .string (encM MKey.sk (vI .i64) m109)))]) h ?_ ?_ <;> clear h
     ·intro o h
      refine AW.block ?_
      refine AW.iter (fun ((m41, v42, v43) : ((List (ByteArray × Int)) × Int × Int)) => mk 234 [] [(0, .d (.sl (a0.map cS30))), (1, .d (.sl (a1.map (cL (cI .i64))))), (2, .d (.sl (a2.map cS))), (9, .d (.lit (.pointer none))), (10, .d (.lit (.int .i64 r14.2))), (11, .mref 53), (12, .d (.lit (.int .i64 v42))), (13, .d (.lit (.int .i64 v43)))] [(53, some (.mp .string (encM MKey.sk (vI .i64) m41)))]) h Sub.tt ?_
      clear h
      rintro ⟨m41, v42, v43⟩ x h
      dsimp only at h ⊢
      refine AW.seq ?_
      replace h := bsome h; obtain ⟨v112, hj, h⟩ := h
      refine AW.cutR (mk 234 [] [(0, .d (.sl (a0.map cS30))), (1, .d (.sl (a1.map (cL (cI .i64))))), (2, .d (.sl (a2.map cS))), (9, .d (.lit (.pointer none))), (10, .d (.lit (.int .i64 r14.2))), (11, .mref 53), (12, .d (.lit (.int .i64 v42))), (13, .d (.lit (.int .i64 v43))), (61, .d (.lit (.bool v112)))] [(53, some (.mp .string (encM MKey.sk (vI .i64) m41)))]) ?_ ?_
      ·clear h; have h := hj; clear hj
       refine Chain.runK [] 5 fun K hK => ?_; simp; refine hK _ _ ?_; clear hK K
       refine Chain.sub (S' := mk 234 [] [(0, .d (.sl (a0.map cS30))), (1, .d (.sl (a1.map (cL (cI .i64))))), (2, .d (.sl (a2.map cS))), (9, .d (.lit (.pointer none))), (10, .d (.lit (.int .i64 r14.2))), (11, .mref 53), (12, .d (.lit (.int .i64 v42))), (13, .d (.lit (.int .i64 v43))), (58, .d (.lit (.bool (decide (v43 < (a0.length : Int))))))] [(53, some (.mp .string (encM MKey.sk (vI .i64) m41)))]) Sub.tt ?_
       replace h := isome h; rcases h with ⟨c113, h⟩ | ⟨c113, h⟩
       ·have c113_ : decide (v43 < (a0.length : Int)) = true := decide_eq_true c113
        refine Chain.sub (Sub.bool 58 (b := decide (v43 < (a0.length : Int))) rfl c113_) ?_
        refine Chain.sub (S' := mk 234 [] [(0, .d (.sl (a0.map cS30))), (1, .d (.sl (a1.map (cL (cI .i64))))), (2, .d (.sl (a2.map cS))), (9, .d (.lit (.pointer none))), (10, .d (.lit (.int .i64 r14.2))), (11, .mref 53), (12, .d (.lit (.int .i64 v42))), (13, .d (.lit (.int .i64 v43))), (58, .d (.lit (.bool true)))] [(53, some (.mp .string (encM MKey.sk (vI .i64) m41)))]) (by simp; exact Sub.table (by simp) (by simp)) ?_
        refine Chain.runK [] 3 fun K hK => ?_; simp; refine hK _ _ ?_; clear hK K
        refine Chain.sub (S' := mk 234 [] [(0, .d (.sl (a0.map cS30))), (1, .d (.sl (a1.map (cL (cI .i64))))), (2, .d (.sl (a2.map cS))), (9, .d (.lit (.pointer none))), (10, .d (.lit (.int .i64 r14.2))), (11, .mref 53), (12, .d (.lit (.int .i64 v42))), (13, .d (.lit (.int .i64 v43))), (59, .d (.lit (.int .i64 v42))), (60, .d (.lit (.bool (v42 == 0)))), (61, .d (.lit (.bool (v42 == 0))))] [(53, some (.mp .string (encM MKey.sk (vI .i64) m41)))]) Sub.tt ?_
        cases h
        exact Chain.nil Sub.tt
       ·have c113_ : decide (v43 < (a0.length : Int)) = false := decide_eq_false c113
        refine Chain.sub (Sub.bool 58 (b := decide (v43 < (a0.length : Int))) rfl c113_) ?_
        refine Chain.sub (S' := mk 234 [] [(0, .d (.sl (a0.map cS30))), (1, .d (.sl (a1.map (cL (cI .i64))))), (2, .d (.sl (a2.map cS))), (9, .d (.lit (.pointer none))), (10, .d (.lit (.int .i64 r14.2))), (11, .mref 53), (12, .d (.lit (.int .i64 v42))), (13, .d (.lit (.int .i64 v43))), (58, .d (.lit (.bool false)))] [(53, some (.mp .string (encM MKey.sk (vI .i64) m41)))]) (by simp; exact Sub.table (by simp) (by simp)) ?_
        refine Chain.runK [] 3 fun K hK => ?_; simp; refine hK _ _ ?_; clear hK K
        refine Chain.sub (S' := mk 234 [] [(0, .d (.sl (a0.map cS30))), (1, .d (.sl (a1.map (cL (cI .i64))))), (2, .d (.sl (a2.map cS))), (9, .d (.lit (.pointer none))), (10, .d (.lit (.int .i64 r14.2))), (11, .mref 53), (12, .d (.lit (.int .i64 v42))), (13, .d (.lit (.int .i64 v43))), (59, .tup []), (60, .tup []), (61, .d (.lit (.bool false)))] [(53, some (.mp .string (encM MKey.sk (vI .i64) m41)))]) Sub.tt ?_
        cases h
        exact Chain.nil Sub.tt
      ·clear hj
       replace h := isome h; rcases h with ⟨c114, h⟩ | ⟨c114, h⟩
       ·have c114_ : v112 = true := c114
        refine AW.condT (b := v112) rfl c114_ ?_
        refine AW.sub (Sub.bool 61 (b := v112) rfl c114_) ?_
        refine AW.sub (S' := mk 234 [] [(0, .d (.sl (a0.map cS30))), (1, .d (.sl (a1.map (cL (cI .i64))))), (2, .d (.sl (a2.map cS))), (9, .d (.lit (.pointer none))), (10, .d (.lit (.int .i64 r14.2))), (11, .mref 53), (12, .d (.lit (.int .i64 v42))), (13, .d (.lit (.int .i64 v43))), (61, .d (.lit (.bool true)))] [(53, some (.mp .string (encM MKey.sk (vI .i64) m41)))]) (by simp; exact Sub.table (by simp) (by simp)) ?_
        refine AW.skip ?_
        refine thenQ_normal ?_
        refine AW.seq ?_
        refine AW.block ?_
        refine AW.seq ?_
        refine AW.block ?_
        replace h := bsome h; obtain ⟨v121, hj, h⟩ := h
        refine AW.cutQ (by kernel_rfl) (by kernel_rfl) (mk 234 [] [(0, .d (.sl (a0.map cS30))), (1, .d (.sl (a1.map (cL (cI .i64))))), (2, .d (.sl (a2.map cS))), (9, .d (.lit (.pointer none))), (10, .d (.lit (.int .i64 r14.2))), (11, .mref 53), (12, .d (.lit (.int .i64 v42))), (13, .d (.lit (.int .i64 v43))), (64, .d (.lit (.bool v121)))] [(53, some (.mp .string (encM MKey.sk (vI .i64) m41)))]) ?_ ?_
        ·clear h; have h := hj; clear hj
         refine Chain.runQ 3 fun K hK => ?_; simp; refine hK _ _ ?_; clear hK K
         refine Chain.sub (S' := mk 234 [] [(0, .d (.sl (a0.map cS30))), (1, .d (.sl (a1.map (cL (cI .i64))))), (2, .d (.sl (a2.map cS))), (9, .d (.lit (.pointer none))), (10, .d (.lit (.int .i64 r14.2))), (11, .mref 53), (12, .d (.lit (.int .i64 v42))), (13, .d (.lit (.int .i64 v43))), (67, .d (.lit (.bool (decide (v43 > 0)))))] [(53, some (.mp .string (encM MKey.sk (vI .i64) m41)))]) Sub.tt ?_
         replace h := isome h; rcases h with ⟨c122, h⟩ | ⟨c122, h⟩
         ·have c122_ : decide (v43 > 0) = true := decide_eq_true c122
          refine Chain.sub (Sub.bool 67 (b := decide (v43 > 0)) rfl c122_) ?_
          refine Chain.sub (S' := mk 234 [] [(0, .d (.sl (a0.map cS30))), (1, .d (.sl (a1.map (cL (cI .i64))))), (2, .d (.sl (a2.map cS))), (9, .d (.lit (.pointer none))), (10, .d (.lit (.int .i64 r14.2))), (11, .mref 53), (12, .d (.lit (.int .i64 v42))), (13, .d (.lit (.int .i64 v43))), (67, .d (.lit (.bool true)))] [(53, some (.mp .string (encM MKey.sk (vI .i64) m41)))]) (by simp; exact Sub.table (by simp) (by simp)) ?_
          replace h := bsome h; obtain ⟨v123, hv123, h⟩ := h
          have hv123 := chkI_some hv123
          replace h := bsome h; obtain ⟨x124, hx124, h⟩ := h
          obtain ⟨k125, hx124k, hx124, hx124a, hx124b⟩ := idx_some hx124
          replace h := bsome h; obtain ⟨x126, hx126, h⟩ := h
          obtain ⟨k127, hx126k, hx126, hx126a, hx126b⟩ := idx_some hx126
          refine Chain.runQ 14 fun K hK => ?_; simp [hv123, hx124, hx124k, hx124a, hx126, hx126k, hx126a]; refine hK _ _ ?_; clear hK K
          refine Chain.sub (S' := mk 234 [] [(0, .d (.sl (a0.map cS30))), (1, .d (.sl (a1.map (cL (cI .i64))))), (2, .d (.sl (a2.map cS))), (9, .d (.lit (.pointer none))), (10, .d (.lit (.int .i64 r14.2))), (11, .mref 53), (12, .d (.lit (.int .i64 v42))), (13, .d (.lit (.int .i64 v43))), (64, .d (.lit (.bool (!Op.bytesLess x124.Key.toList x126.Key.toList)))), (68, .d (.sl (a0.map cS30))), (69, .d (.lit (.int .i64 v43))), (70, .d (.lit (.int .i64 v123))), (71, .d (.pim [.lit (.string x124.Key), .lit (.int .i64 x124.Value)])), (72, .d (.pim [.lit (.string x124.Key), .lit (.int .i64 x124.Value)])), (73, .d (.lit (.string x124.Key))), (74, .d (.sl (a0.map cS30))), (75, .d (.lit (.int .i64 v43))), (76, .d (.pim [.lit (.string x126.Key), .lit (.int .i64 x126.Value)])), (77, .d (.pim [.lit (.string x126.Key), .lit (.int .i64 x126.Value)])), (78, .d (.lit (.string x126.Key))), (79, .d (.lit (.bool (!Op.bytesLess x124.Key.toList x126.Key.toList))))] [(53, some (.mp .string (encM MKey.sk (vI .i64) m41)))]) Sub.tt ?_
          cases h
          exact Chain.nil Sub.tt
         ·have c122_ : decide (v43 > 0) = false := decide_eq_false c122
          refine Chain.sub (Sub.bool 67 (b := decide (v43 > 0)) rfl c122_) ?_
          refine Chain.sub (S' := mk 234 [] [(0, .d (.sl (a0.map cS30))), (1, .d (.sl (a1.map (cL (cI .i64))))), (2, .d (.sl (a2.map cS))), (9, .d (.lit (.pointer none))), (10, .d (.lit (.int .i64 r14.2))), (11, .mref 53), (12, .d (.lit (.int .i64 v42))), (13, .d (.lit (.int .i64 v43))), (67, .d (.lit (.bool false)))] [(53, some (.mp .string (encM MKey.sk (vI .i64) m41)))]) (by simp; exact Sub.table (by simp) (by simp)) ?_
          refine Chain.runQ 14 fun K hK => ?_; simp; refine hK _ _ ?_; clear hK K
          refine Chain.sub (S' := mk 234 [] [(0, .d (.sl (a0.map cS30))), (1, .d (.sl (a1.map (cL (cI .i64))))), (2, .d (.sl (a2.map cS))), (9, .d (.lit (.pointer none))), (10, .d (.lit (.int .i64 r14.2))), (11, .mref 53), (12, .d (.lit (.int .i64 v42))), (13, .d (.lit (.int .i64 v43))), (64, .d (.lit (.bool false))), (68, .tup []), (69, .tup []), (70, .tup []), (71, .tup []), (72, .tup []), (73, .tup []), (74, .tup []), (75, .tup []), (76, .tup []), (77, .tup []), (78, .tup []), (79, .tup [])] [(53, some (.mp .string (encM MKey.sk (vI .i64) m41)))]) Sub.tt ?_
          cases h
          exact Chain.nil Sub.tt
        ·clear hj
         refine AW.lastN (fun (v133 : Int) => mk 234 [] [(0, .d (.sl (a0.map cS30))), (1, .d (.sl (a1.map (cL (cI .i64))))), (2, .d (.sl (a2.map cS))), (9, .d (.lit (.pointer none))), (10, .d (.lit (.int .i64 r14.2))), (11, .mref 53), (12, .d (.lit (.int .i64 v133))), (13, .d (.lit (.int .i64 v43)))] [(53, some (.mp .string (encM MKey.sk (vI .i64) m41)))]) h ?_ ?_ <;> clear h
         ·intro o h
          replace h := isome h; rcases h with ⟨c134, h⟩ | ⟨c134, h⟩
          ·have c134_ : v121 = true := c134
           refine AW.condT (b := v121) rfl c134_ ?_
           refine AW.sub (Sub.bool 64 (b := v121) rfl c134_) ?_
           refine AW.sub (S' := mk 234 [] [(0, .d (.sl (a0.map cS30))), (1, .d (.sl (a1.map (cL (cI .i64))))), (2, .d (.sl (a2.map cS))), (9, .d (.lit (.pointer none))), (10, .d (.lit (.int .i64 r14.2))), (11, .mref 53), (12, .d (.lit (.int .i64 v42))), (13, .d (.lit (.int .i64 v43))), (64, .d (.lit (.bool true)))] [(53, some (.mp .string (encM MKey.sk (vI .i64) m41)))]) (by simp; exact Sub.table (by simp) (by simp)) ?_
           refine AW.region ?_
           refine Chain.runK [] 1 fun K hK => ?_; simp; refine hK _ _ ?_; clear hK K
           refine Chain.sub (S' := mk 234 [] [(0, .d (.sl (a0.map cS30))), (1, .d (.sl (a1.map (cL (cI .i64))))), (2, .d (.sl (a2.map cS))), (9, .d (.lit (.pointer none))), (10, .d (.lit (.int .i64 r14.2))), (11, .mref 53), (12, .d (.lit (.int .i64 6))), (13, .d (.lit (.int .i64 v43)))] [(53, some (.mp .string (encM MKey.sk (vI .i64) m41)))]) Sub.tt ?_
           refine Chain.nil ?_
           cases h
           refine PostN.next ?_
           exact Sub.tt
          ·have c134_ : v121 = false := Bool.eq_false_iff.2 c134
           refine AW.condF (b := v121) rfl c134_ ?_
           refine AW.sub (Sub.bool 64 (b := v121) rfl c134_) ?_
           refine AW.sub (S' := mk 234 [] [(0, .d (.sl (a0.map cS30))), (1, .d (.sl (a1.map (cL (cI .i64))))), (2, .d (.sl (a2.map cS))), (9, .d (.lit (.pointer none))), (10, .d (.lit (.int .i64 r14.2))), (11, .mref 53), (12, .d (.lit (.int .i64 v42))), (13, .d (.lit (.int .i64 v43))), (64, .d (.lit (.bool false)))] [(53, some (.mp .string (encM MKey.sk (vI .i64) m41)))]) (by simp; exact Sub.table (by simp) (by simp)) ?_
           refine AW.seqR ?_
           replace h := bsome h; obtain ⟨x135, hx135, h⟩ := h
           obtain ⟨k136, hx135k, hx135, hx135a, hx135b⟩ := idx_some hx135
           refine Chain.runK [] 8 fun K hK => ?_; simp [hx135, hx135k, hx135a]; refine hK _ _ ?_; clear hK K
           refine Chain.sub (S' := mk 234 [] [(0, .d (.sl (a0.map cS30))), (1, .d (.sl (a1.map (cL (cI .i64))))), (2, .d (.sl (a2.map cS))), (9, .d (.lit (.pointer none))), (10, .d (.lit (.int .i64 r14.2))), (11, .mref 53), (12, .d (.lit (.int .i64 v42))), (13, .d (.lit (.int .i64 v43))), (81, .d (.lit (.bool (decide ((x135.Key.size : Int) > 24)))))] [(53, some (.mp .string (encM MKey.sk (vI .i64) m41)))]) Sub.tt ?_
           refine Chain.nil ?_
           replace h := isome h; rcases h with ⟨c137, h⟩ | ⟨c137, h⟩
           ·have c137_ : decide ((x135.Key.size : Int) > 24) = true := decide_eq_true c137
            refine AW.condT (b := decide ((x135.Key.size : Int) > 24)) rfl c137_ ?_
            refine AW.sub (Sub.bool 81 (b := decide ((x135.Key.size : Int) > 24)) rfl c137_) ?_
            refine AW.sub (S' := mk 234 [] [(0, .d (.sl (a0.map cS30))), (1, .d (.sl (a1.map (cL (cI .i64))))), (2, .d (.sl (a2.map cS))), (9, .d (.lit (.pointer none))), (10, .d (.lit (.int .i64 r14.2))), (11, .mref 53), (12, .d (.lit (.int .i64 v42))), (13, .d (.lit (.int .i64 v43))), (81, .d (.lit (.bool true)))] [(53, some (.mp .string (encM MKey.sk (vI .i64) m41)))]) (by simp; exact Sub.table (by simp) (by simp)) ?_
            refine AW.region ?_
            refine Chain.runK [] 1 fun K hK => ?_; simp; refine hK _ _ ?_; clear hK K
            refine Chain.sub (S' := mk 234 [] [(0, .d (.sl (a0.map cS30))), (1, .d (.sl (a1.map (cL (cI .i64))))), (2, .d (.sl (a2.map cS))), (9, .d (.lit (.pointer none))), (10, .d (.lit (.int .i64 r14.2))), (11, .mref 53), (12, .d (.lit (.int .i64 2))), (13, .d (.lit (.int .i64 v43)))] [(53, some (.mp .string (encM MKey.sk (vI .i64) m41)))]) Sub.tt ?_
            refine Chain.nil ?_
            cases h
            refine PostN.next ?_
            exact Sub.tt
           ·have c137_ : decide ((x135.Key.size : Int) > 24) = false := decide_eq_false c137
            refine AW.condF (b := decide ((x135.Key.size : Int) > 24)) rfl c137_ ?_
            refine AW.sub (Sub.bool 81 (b := decide ((x135.Key.size : Int) > 24)) rfl c137_) ?_
            refine AW.sub (S' := mk 234 [] [(0, .d (.sl (a0.map cS30))), (1, .d (.sl (a1.map (cL (cI .i64))))), (2, .d (.sl (a2.map cS))), (9, .d (.lit (.pointer none))), (10, .d (.lit (.int .i64 r14.2))), (11, .mref 53), (12, .d (.lit (.int .i64 v42))), (13, .d (.lit (.int .i64 v43))), (81, .d (.lit (.bool false)))] [(53, some (.mp .string (encM MKey.sk (vI .i64) m41)))]) (by simp; exact Sub.table (by simp) (by simp)) ?_
            refine AW.seqR ?_
            refine Chain.runK [] 1 fun K hK => ?_; simp; refine hK _ _ ?_; clear hK K
            refine Chain.sub (S' := mk 234 [] [(0, .d (.sl (a0.map cS30))), (1, .d (.sl (a1.map (cL (cI .i64))))), (2, .d (.sl (a2.map cS))), (9, .d (.lit (.pointer none))), (10, .d (.lit (.int .i64 r14.2))), (11, .mref 53), (12, .d (.lit (.int .i64 v42))), (13, .d (.lit (.int .i64 v43))), (90, .mref 53)] [(53, some (.mp .string (encM MKey.sk (vI .i64) m41)))]) Sub.tt ?_
            refine Chain.pureP (by simp) (pure_lenM (id := 53) rfl rfl rfl ty32 rfl (by simp) rfl) ?_
            refine Chain.sub (S' := mk 234 [] [(0, .d (.sl (a0.map cS30))), (1, .d (.sl (a1.map (cL (cI .i64))))), (2, .d (.sl (a2.map cS))), (9, .d (.lit (.pointer none))), (10, .d (.lit (.int .i64 r14.2))), (11, .mref 53), (12, .d (.lit (.int .i64 v42))), (13, .d (.lit (.int .i64 v43))), (90, .mref 53), (91, .d (.lit (.int .i64 (m41.length : Int))))] [(53, some (.mp .string (encM MKey.sk (vI .i64) m41)))]) (by simp; exact Sub.table (by simp) (by simp)) ?_
            refine Chain.runK [] 2 fun K hK => ?_; simp; refine hK _ _ ?_; clear hK K
            refine Chain.sub (S' := mk 234 [] [(0, .d (.sl (a0.map cS30))), (1, .d (.sl (a1.map (cL (cI .i64))))), (2, .d (.sl (a2.map cS))), (9, .d (.lit (.pointer none))), (10, .d (.lit (.int .i64 r14.2))), (11, .mref 53), (12, .d (.lit (.int .i64 v42))), (13, .d (.lit (.int .i64 v43))), (89, .d (.lit (.bool ((m41.length : Int) == 40))))] [(53, some (.mp .string (encM MKey.sk (vI .i64) m41)))]) Sub.tt ?_
            refine Chain.nil ?_
            replace h := isome h; rcases h with ⟨c138, h⟩ | ⟨c138, h⟩
            ·have c138_ : ((m41.length : Int) == 40) = true := c138
             refine AW.condT (b := ((m41.length : Int) == 40)) rfl c138_ ?_
             refine AW.sub (Sub.bool 89 (b := ((m41.length : Int) == 40)) rfl c138_) ?_
             refine AW.sub (S' := mk 234 [] [(0, .d (.sl (a0.map cS30))), (1, .d (.sl (a1.map (cL (cI .i64))))), (2, .d (.sl (a2.map cS))), (9, .d (.lit (.pointer none))), (10, .d (.lit (.int .i64 r14.2))), (11, .mref 53), (12, .d (.lit (.int .i64 v42))), (13, .d (.lit (.int .i64 v43))), (89, .d (.lit (.bool true)))] [(53, some (.mp .string (encM MKey.sk (vI .i64) m41)))]) (by simp; exact Sub.table (by simp) (by simp)) ?_
             refine AW.region ?_
             refine Chain.runK [] 1 fun K hK => ?_; simp; refine hK _ _ ?_; clear hK K
             refine Chain.sub (S' := mk 234 [] [(0, .d (.sl (a0.map cS30))), (1, .d (.sl (a1.map (cL (cI .i64))))), (2, .d (.sl (a2.map cS))), (9, .d (.lit (.pointer none))), (10, .d (.lit (.int .i64 r14.2))), (11, .mref 53), (12, .d (.lit (.int .i64 18))), (13, .d (.lit (.int .i64 v43)))] [(53, some (.mp .string (encM MKey.sk (vI .i64) m41)))]) Sub.tt ?_
             refine Chain.nil ?_
             cases h
             refine PostN.next ?_
             exact Sub.tt
            ·have c138_ : ((m41.length : Int) == 40) = false := Bool.eq_false_iff.2 c138
             refine AW.condF (b := ((m41.length : Int) == 40)) rfl c138_ ?_
             refine AW.sub (Sub.bool 89 (b := ((m41.length : Int) == 40)) rfl c138_) ?_
             refine AW.sub (S' := mk 234 [] [(0, .d (.sl (a0.map cS30))), (1, .d (.sl (a1.map (cL (cI .i64))))), (2, .d (.sl (a2.map cS))), (9, .d (.lit (.pointer none))), (10, .d (.lit (.int .i64 r14.2))), (11, .mref 53), (12, .d (.lit (.int .i64 v42))), (13, .d (.lit (.int .i64 v43))), (89, .d (.lit (.bool false)))] [(53, some (.mp .string (encM MKey.sk (vI .i64) m41)))]) (by simp; exact Sub.table (by simp) (by simp)) ?_
             refine AW.skip ?_
             cases h
             refine PostN.next ?_
             exact Sub.tt
         ·rintro v133 h
          refine blockQ.normal ?_
          refine thenQ_normal ?_
          replace h := bsome h; obtain ⟨x139, hx139, h⟩ := h
          obtain ⟨k140, hx139k, hx139, hx139a, hx139b⟩ := idx_some hx139
          refine AW.regionT 11 (by kernel_rfl) (by kernel_rfl) fun K hK => ?_; simp [hx139, hx139k, hx139a]; refine hK _ _ ?_; clear hK K
          refine Chain.sub (S' := mk 234 [] [(0, .d (.sl (a0.map cS30))), (1, .d (.sl (a1.map (cL (cI .i64))))), (2, .d (.sl (a2.map cS))), (9, .d (.lit (.pointer none))), (10, .d (.lit (.int .i64 r14.2))), (11, .mref 53), (12, .d (.lit (.int .i64 v133))), (13, .d (.lit (.int .i64 v43))), (93, .mref 53), (98, .d (.lit (.string x139.Key))), (103, .d (.lit (.int .i64 x139.Value)))] [(53, some (.mp .string (encM MKey.sk (vI .i64) m41)))]) Sub.tt ?_
          refine Chain.msetE (vf := (vI .i64)) sk_inj m41 x139.Key x139.Value (by simp) (.inl rfl) ty32 rfl ty9 rfl rfl rfl rfl rfl rfl rfl ?_
          refine Chain.sub (S' := mk 234 [] [(0, .d (.sl (a0.map cS30))), (1, .d (.sl (a1.map (cL (cI .i64))))), (2, .d (.sl (a2.map cS))), (9, .d (.lit (.pointer none))), (10, .d (.lit (.int .i64 r14.2))), (11, .mref 53), (12, .d (.lit (.int .i64 v133))), (13, .d (.lit (.int .i64 v43))), (93, .mref 53), (98, .d (.lit (.string x139.Key))), (103, .d (.lit (.int .i64 x139.Value)))] [(53, some (.mp .string (encM MKey.sk (vI .i64) (mput m41 x139.Key x139.Value))))]) (by simp; exact Sub.table (by simp) (by simp)) ?_
          refine Chain.nil ?_
          refine blockQ.normal ?_
          refine thenQ_normal ?_
          refine AW.region ?_
          replace h := bsome h; obtain ⟨v141, hv141, h⟩ := h
          have hv141 := chkI_some hv141
          refine Chain.runK [] 3 fun K hK => ?_; simp [hv141]; refine hK _ _ ?_; clear hK K
          refine Chain.sub (S' := mk 234 [] [(0, .d (.sl (a0.map cS30))), (1, .d (.sl (a1.map (cL (cI .i64))))), (2, .d (.sl (a2.map cS))), (9, .d (.lit (.pointer none))), (10, .d (.lit (.int .i64 r14.2))), (11, .mref 53), (12, .d (.lit (.int .i64 v133))), (13, .d (.lit (.int .i64 v141)))] [(53, some (.mp .string (encM MKey.sk (vI .i64) (mput m41 x139.Key x139.Value))))]) Sub.tt ?_
          refine Chain.nil ?_
          cases h
          refine PostI.next ?_
          exact Sub.tt
       ·have c114_ : v112 = false := Bool.eq_false_iff.2 c114
        refine AW.condF (b := v112) rfl c114_ ?_
        refine AW.sub (Sub.bool 61 (b := v112) rfl c114_) ?_
        refine AW.sub (S' := mk 234 [] [(0, .d (.sl (a0.map cS30))), (1, .d (.sl (a1.map (cL (cI .i64))))), (2, .d (.sl (a2.map cS))), (9, .d (.lit (.pointer none))), (10, .d (.lit (.int .i64 r14.2))), (11, .mref 53), (12, .d (.lit (.int .i64 v42))), (13, .d (.lit (.int .i64 v43))), (61, .d (.lit (.bool false)))] [(53, some (.mp .string (encM MKey.sk (vI .i64) m41)))]) (by simp; exact Sub.table (by simp) (by simp)) ?_
        refine AW.exit ?_
        cases h
        refine thenQ_pass (by simp) ?_
        refine PostI.out (by simp) ?_
        rintro rfl
        refine blockQ.hit ?_
        refine PostN.next ?_
        exact Sub.tt
     ·rintro ⟨m109, v110⟩ h
      dsimp only at h ⊢
      refine thenQ_normal ?_
      refine AW.seq ?_
      refine AW.seqR ?_
      refine Chain.runK [] 2 fun K hK => ?_; simp; refine hK _ _ ?_; clear hK K
      refine Chain.sub (S' := mk 234 [] [(1, .d (.sl (a1.map (cL (cI .i64))))), (2, .d (.sl (a2.map cS))), (9, .d (.lit (.pointer none))), (10, .d (.lit (.int .i64 r14.2))), (11, .mref 53), (12, .d (.lit (.int .i64 v110))), (105, .d (.lit (.bool (v110 != 0))))] [(53, some (.mp .string (encM MKey.sk (vI .i64) m109)))]) Sub.tt ?_
      refine Chain.nil ?_
      replace h := isome h; rcases h with ⟨c142, h⟩ | ⟨c142, h⟩
      ·have c142_ : (v110 != 0) = true := c142
       refine AW.condT (b := (v110 != 0)) rfl c142_ ?_
       refine AW.sub (Sub.bool 105 (b := (v110 != 0)) rfl c142_) ?_
       refine AW.sub (S' := mk 234 [] [(1, .d (.sl (a1.map (cL (cI .i64))))), (2, .d (.sl (a2.map cS))), (9, .d (.lit (.pointer none))), (10, .d (.lit (.int .i64 r14.2))), (11, .mref 53), (12, .d (.lit (.int .i64 v110))), (105, .d (.lit (.bool true)))] [(53, some (.mp .string (encM MKey.sk (vI .i64) m109)))]) (by simp; exact Sub.table (by simp) (by simp)) ?_
       replace h := bsome h; obtain ⟨v144, hj, h⟩ := h
       refine AW.cutR (mk 234 [] [(6, .d (.lit (.bool v144)))] []) ?_ ?_
       ·clear h; have h := hj; clear hj
        refine Chain.runK [] 4 fun K hK => ?_; simp; refine hK _ _ ?_; clear hK K
        refine Chain.sub (S' := mk 234 [] [(9, .d (.lit (.pointer none))), (109, .d (.lit (.bool (r14.2 == v110))))] []) Sub.tt ?_
        replace h := isome h; rcases h with ⟨c145, h⟩ | ⟨c145, h⟩
        ·have c145_ : (r14.2 == v110) = true := c145
         refine Chain.sub (Sub.bool 109 (b := (r14.2 == v110)) rfl c145_) ?_
         refine Chain.sub (S' := mk 234 [] [(9, .d (.lit (.pointer none))), (109, .d (.lit (.bool true)))] []) (by simp; exact Sub.table (by simp) (by simp)) ?_
         refine Chain.runK [] 4 fun K hK => ?_; simp; refine hK _ _ ?_; clear hK K
         refine Chain.sub (S' := mk 234 [] [(6, .d (.lit (.bool true)))] []) Sub.tt ?_
         cases h
         exact Chain.nil Sub.tt
        ·have c145_ : (r14.2 == v110) = false := Bool.eq_false_iff.2 c145
         refine Chain.sub (Sub.bool 109 (b := (r14.2 == v110)) rfl c145_) ?_
         refine Chain.sub (S' := mk 234 [] [(9, .d (.lit (.pointer none))), (109, .d (.lit (.bool false)))] []) (by simp; exact Sub.table (by simp) (by simp)) ?_
         refine Chain.runK [] 4 fun K hK => ?_; simp; refine hK _ _ ?_; clear hK K
         refine Chain.sub (S' := mk 234 [] [(6, .d (.lit (.bool false)))] []) Sub.tt ?_
         cases h
         exact Chain.nil Sub.tt
       ·clear hj
        refine AW.ret ?_
        cases h
        refine thenQ_pass (by simp) ?_
        exact FinC.ret (by simp) (by simp)
      ·have c142_ : (v110 != 0) = false := Bool.eq_false_iff.2 c142
       refine AW.condF (b := (v110 != 0)) rfl c142_ ?_
       refine AW.sub (Sub.bool 105 (b := (v110 != 0)) rfl c142_) ?_
       refine AW.sub (S' := mk 234 [] [(1, .d (.sl (a1.map (cL (cI .i64))))), (2, .d (.sl (a2.map cS))), (9, .d (.lit (.pointer none))), (10, .d (.lit (.int .i64 r14.2))), (11, .mref 53), (12, .d (.lit (.int .i64 v110))), (105, .d (.lit (.bool false)))] [(53, some (.mp .string (encM MKey.sk (vI .i64) m109)))]) (by simp; exact Sub.table (by simp) (by simp)) ?_
       refine AW.skip ?_
       refine thenQ_normal ?_
       refine AW.seq ?_
       replace h := bsome h; obtain ⟨⟨⟩, hj, h⟩ := h
       refine AW.cutR (mk 234 [] [(1, .d (.sl (a1.map (cL (cI .i64))))), (2, .d (.sl (a2.map cS))), (9, .d (.lit (.pointer none))), (11, .mref 53), (118, .d (.lit (.bool true)))] [(53, some (.mp .string (encM MKey.sk (vI .i64) m109)))]) ?_ ?_
       ·clear h; have h := hj; clear hj
        refine Chain.runK [] 3 fun K hK => ?_; simp; refine hK _ _ ?_; clear hK K
        refine Chain.sub (S' := mk 234 [] [(1, .d (.sl (a1.map (cL (cI .i64))))), (2, .d (.sl (a2.map cS))), (9, .d (.lit (.pointer none))), (11, .mref 53), (115, .d (.lit (.bool (r14.2 != 0))))] [(53, some (.mp .string (encM MKey.sk (vI .i64) m109)))]) Sub.tt ?_
        replace h := isome h; rcases h with ⟨c147, h⟩ | ⟨c147, h⟩
        ·have c147_ : (r14.2 != 0) = true := c147
         refine Chain.sub (Sub.bool 115 (b := (r14.2 != 0)) rfl c147_) ?_
         refine Chain.sub (S' := mk 234 [] [(1, .d (.sl (a1.map (cL (cI .i64))))), (2, .d (.sl (a2.map cS))), (9, .d (.lit (.pointer none))), (11, .mref 53), (115, .d (.lit (.bool true)))] [(53, some (.mp .string (encM MKey.sk (vI .i64) m109)))]) (by simp; exact Sub.table (by simp) (by simp)) ?_
         refine Chain.runK [] 3 fun K hK => ?_; simp; refine hK _ _ ?_; clear hK K
         refine Chain.sub (S' := mk 234 [] [(1, .d (.sl (a1.map (cL (cI .i64))))), (2, .d (.sl (a2.map cS))), (9, .d (.lit (.pointer none))), (11, .mref 53), (118, .d (.lit (.bool true)))] [(53, some (.mp .string (encM MKey.sk (vI .i64) m109)))]) Sub.tt ?_
         cases h
         exact Chain.nil Sub.tt
        ·have c147_ : (r14.2 != 0) = false := Bool.eq_false_iff.2 c147
         refine Chain.sub (Sub.bool 115 (b := (r14.2 != 0)) rfl c147_) ?_
         refine Chain.sub (S' := mk 234 [] [(1, .d (.sl (a1.map (cL (cI .i64))))), (2, .d (.sl (a2.map cS))), (9, .d (.lit (.pointer none))), (11, .mref 53), (115, .d (.lit (.bool false)))] [(53, some (.mp .string (encM MKey.sk (vI .i64) m109)))]) (by simp; exact Sub.table (by simp) (by simp)) ?_
         refine Chain.runK [] 3 fun K hK => ?_; simp; refine hK _ _ ?_; clear hK K
         refine Chain.sub (S' := mk 234 [] [(1, .d (.sl (a1.map (cL (cI .i64))))), (2, .d (.sl (a2.map cS))), (9, .d (.lit (.pointer none))), (11, .mref 53), (118, .d (.lit (.bool true)))] [(53, some (.mp .string (encM MKey.sk (vI .i64) m109)))]) Sub.tt ?_
         cases h
         exact Chain.nil Sub.tt
       ·clear hj
        refine AW.condK fun K1 K2 k1 k2 => ?_; simp; refine k1 ?_; clear k1 k2 K1 K2
        refine AW.seqR ?_
        refine Chain.runK [] 1 fun K hK => ?_; simp; refine hK _ _ ?_; clear hK K
        refine Chain.sub (S' := mk 234 [] [(6, .d (.lit (.bool false)))] []) Sub.tt ?_
        refine Chain.nil ?_
        refine AW.ret ?_
        cases h
        refine thenQ_pass (by simp) ?_
        exact FinC.ret (by simp) (by simp)
    ·simp only [hr14o, List.nil_append] at Fr14
     refine Chain.callF Fr14 [] [] [(1000, 50), (25000, 6000), (25001, 6001)] [(50, (.box [.ref 6000 0 r14o.entries.length, .ref 6001 0 r14o.savepoints.length])), (6000, (.arr 30 2 (r14o.entries.map cS30))), (6001, (.arr 22 1 (r14o.savepoints.map (cL cS30))))] (.tup [.ptr 50 0 0, .d (.lit (.int .i64 r14.2))]) (by simp) rfl (by simp <;> rfl) (by simp) (by simp) (by simp) (by simp) (by simp) ent4 (by simp) (by simp) (by simp) (by simp) (by simp) (by simp) ?_
     refine Chain.sub (S' := mk 234 [] [(0, .d (.sl (a0.map cS30))), (1, .d (.sl (a1.map (cL (cI .i64))))), (2, .d (.sl (a2.map cS))), (49, .d (.sl (a0.map cS30))), (50, .tup [.ptr 50 0 0, .d (.lit (.int .i64 r14.2))])] [(50, some (.box [.ref 6000 0 r14o.entries.length, .ref 6001 0 r14o.savepoints.length])), (6000, some (.arr 30 2 (r14o.entries.map cS30))), (6001, some (.arr 22 1 (r14o.savepoints.map (cL cS30))))]) (by simp; exact Sub.table (by simp) (by simp)) ?_
     refine Chain.runK [] 5 fun K hK => ?_; simp; refine hK _ _ ?_; clear hK K
     refine Chain.sub (S' := mk 234 [] [(0, .d (.sl (a0.map cS30))), (1, .d (.sl (a1.map (cL (cI .i64))))), (2, .d (.sl (a2.map cS))), (9, .ptr 50 0 0), (10, .d (.lit (.int .i64 r14.2)))] [(50, some (.box [.ref 6000 0 r14o.entries.length, .ref 6001 0 r14o.savepoints.length])), (6000, some (.arr 30 2 (r14o.entries.map cS30))), (6001, some (.arr 22 1 (r14o.savepoints.map (cL cS30))))]) Sub.tt ?_
     refine Chain.nil ?_
     refine AW.seqR ?_
     refine Chain.mmake .string (by simp) rfl rfl (by simp) ?_
     refine Chain.sub (S' := mk 234 [] [(0, .d (.sl (a0.map cS30))), (1, .d (.sl (a1.map (cL (cI .i64))))), (2, .d (.sl (a2.map cS))), (9, .ptr 50 0 0), (10, .d (.lit (.int .i64 r14.2))), (53, .mref 53)] [(50, some (.box [.ref 6000 0 r14o.entries.length, .ref 6001 0 r14o.savepoints.length])), (53, some (.mp .string (encM MKey.sk (vI .i64) ([] : List (ByteArray × Int))))), (6000, some (.arr 30 2 (r14o.entries.map cS30))), (6001, some (.arr 22 1 (r14o.savepoints.map (cL cS30))))]) (by simp; exact Sub.table (by simp) (by simp [encM_nil])) ?_
     refine Chain.runK [] 1 fun K hK => ?_; simp; refine hK _ _ ?_; clear hK K
     refine Chain.sub (S' := mk 234 [] [(0, .d (.sl (a0.map cS30))), (1, .d (.sl (a1.map (cL (cI .i64))))), (2, .d (.sl (a2.map cS))), (9, .ptr 50 0 0), (10, .d (.lit (.int .i64 r14.2))), (11, .mref 53)] [(50, some (.box [.ref 6000 0 r14o.entries.length, .ref 6001 0 r14o.savepoints.length])), (53, some (.mp .string (encM MKey.sk (vI .i64) ([] : List (ByteArray × Int))))), (6000, some (.arr 30 2 (r14o.entries.map cS30))), (6001, some (.arr 22 1 (r14o.savepoints.map (cL cS30))))]) Sub.tt ?_
     refine Chain.nil ?_
     refine AW.seqR ?_
     refine Chain.runK [] 1 fun K hK => ?_; simp; refine hK _ _ ?_; clear hK K
     refine Chain.sub (S' := mk 234 [] [(0, .d (.sl (a0.map cS30))), (1, .d (.sl (a1.map (cL (cI .i64))))), (2, .d (.sl (a2.map cS))), (9, .ptr 50 0 0), (10, .d (.lit (.int .i64 r14.2))), (11, .mref 53), (12, .d (.lit (.int .i64 0)))] [(50, some (.box [.ref 6000 0 r14o.entries.length, .ref 6001 0 r14o.savepoints.length])), (53, some (.mp .string (encM MKey.sk (vI .i64) ([] : List (ByteArray × Int))))), (6000, some (.arr 30 2 (r14o.entries.map cS30))), (6001, some (.arr 22 1 (r14o.savepoints.map (cL cS30))))]) Sub.tt ?_
     refine Chain.nil ?_
     refine AW.seq ?_
     refine AW.seqR ?_
     refine Chain.runK [] 1 fun K hK => ?_; simp; refine hK _ _ ?_; clear hK K
     refine Chain.sub (S' := mk 234 [] [(0, .d (.sl (a0.map cS30))), (1, .d (.sl (a1.map (cL (cI .i64))))), (2, .d (.sl (a2.map cS))), (9, .ptr 50 0 0), (10, .d (.lit (.int .i64 r14.2))), (11, .mref 53), (12, .d (.lit (.int .i64 0))), (13, .d (.lit (.int .i64 0)))] [(50, some (.box [.ref 6000 0 r14o.entries.length, .ref 6001 0 r14o.savepoints.length])), (53, some (.mp .string (encM MKey.sk (vI .i64) ([] : List (ByteArray × Int))))), (6000, some (.arr 30 2 (r14o.entries.map cS30))), (6001, some (.arr 22 1 (r14o.savepoints.map (cL cS30))))]) Sub.tt ?_
     refine Chain.nil ?_
     refine AW.lastN (fun ((m242, v243) : ((List (ByteArray × Int)) × Int)) => mk 234 [] [(1, .d (.sl (a1.map (cL (cI .i64))))), (2, .d (.sl (a2.map cS))), (9, .ptr 50 0 0), (10, .d (.lit (.int .i64 r14.2))), (11, .mref 53), (12, .d (.lit (.int .i64 v243)))] [(50, some (.box [.ref 6000 0 r14o.entries.length, .ref 6001 0 r14o.savepoints.length])), (53, some (.mp .string (encM MKey.sk (vI .i64) m242))), (6000, some (.arr 30 2 (r14o.entries.map cS30))), (6001, some (.arr 22 1 (r14o.savepoints.map (cL cS30))))]) h ?_ ?_ <;> clear h
     ·intro o h
      refine AW.block ?_
      refine AW.iter (fun ((m174, v175, v176) : ((List (ByteArray × Int)) × Int × Int)) => mk 234 [] [(0, .d (.sl (a0.map cS30))), (1, .d (.sl (a1.map (cL (cI .i64))))), (2, .d (.sl (a2.map cS))), (9, .ptr 50 0 0), (10, .d (.lit (.int .i64 r14.2))), (11, .mref 53), (12, .d (.lit (.int .i64 v175))), (13, .d (.lit (.int .i64 v176)))] [(50, some (.box [.ref 6000 0 r14o.entries.length, .ref 6001 0 r14o.savepoints.length])), (53, some (.mp .string (encM MKey.sk (vI .i64) m174))), (6000, some (.arr 30 2 (r14o.entries.map cS30))), (6001, some (.arr 22 1 (r14o.savepoints.map (cL cS30))))]) h Sub.tt ?_
      clear h
      rintro ⟨m174, v175, v176⟩ x h
      dsimp only at h ⊢
      refine AW.seq ?_
      replace h := bsome h; obtain ⟨v245, hj, h⟩ := h
      refine AW.cutR (mk 234 [] [(0, .d (.sl (a0.map cS30))), (1, .d (.sl (a1.map (cL (cI .i64))))), (2, .d (.sl (a2.map cS))), (9, .ptr 50 0 0), (10, .d (.lit (.int .i64 r14.2))), (11, .mref 53), (12, .d (.lit (.int .i64 v175))), (13, .d (.lit (.int .i64 v176))), (61, .d (.lit (.bool v245)))] [(50, some (.box [.ref 6000 0 r14o.entries.length, .ref 6001 0 r14o.savepoints.length])), (53, some (.mp .string (encM MKey.sk (vI .i64) m174))), (6000, some (.arr 30 2 (r14o.entries.map cS30))), (6001, some (.arr 22 1 (r14o.savepoints.map (cL cS30))))]) ?_ ?_
      ·clear h; have h := hj; clear hj
       refine Chain.runK [] 5 fun K hK => ?_; simp; refine hK _ _ ?_; clear hK K
       refine Chain.sub (S' := mk 234 [] [(0, .d (.sl (a0.map cS30))), (1, .d (.sl (a1.map (cL (cI .i64))))), (2, .d (.sl (a2.map cS))), (9, .ptr 50 0 0), (10, .d (.lit (.int .i64 r14.2))), (11, .mref 53), (12, .d (.lit (.int .i64 v175))), (13, .d (.lit (.int .i64 v176))), (58, .d (.lit (.bool (decide (v176 < (a0.length : Int))))))] [(50, some (.box [.ref 6000 0 r14o.entries.length, .ref 6001 0 r14o.savepoints.length])), (53, some (.mp .string (encM MKey.sk (vI .i64) m174))), (6000, some (.arr 30 2 (r14o.entries.map cS30))), (6001, some (.arr 22 1 (r14o.savepoints.map (cL cS30))))]) Sub.tt ?_
       replace h := isome h; rcases h with ⟨c246, h⟩ | ⟨c246, h⟩
       ·have c246_ : decide (v176 < (a0.length : Int)) = true := decide_eq_true c246
        refine Chain.sub (Sub.bool 58 (b := decide (v176 < (a0.length : Int))) rfl c246_) ?_
        refine Chain.sub (S' := mk 234 [] [(0, .d (.sl (a0.map cS30))), (1, .d (.sl (a1.map (cL (cI .i64))))), (2, .d (.sl (a2.map cS))), (9, .ptr 50 0 0), (10, .d (.lit (.int .i64 r14.2))), (11, .mref 53), (12, .d (.lit (.int .i64 v175))), (13, .d (.lit (.int .i64 v176))), (58, .d (.lit (.bool true)))] [(50, some (.box [.ref 6000 0 r14o.entries.length, .ref 6001 0 r14o.savepoints.length])), (53, some (.mp .string (encM MKey.sk (vI .i64) m174))), (6000, some (.arr 30 2 (r14o.entries.map cS30))), (6001, some (.arr 22 1 (r14o.savepoints.map (cL cS30))))]) (by simp; exact Sub.table (by simp) (by simp)) ?_
        refine Chain.runK [] 3 fun K hK => ?_; simp; refine hK _ _ ?_; clear hK K
        refine Chain.sub (S' := mk 234 [] [(0, .d (.sl (a0.map cS30))), (1, .d (.sl (a1.map (cL (cI .i64))))), (2, .d (.sl (a2.map cS))), (9, .ptr 50 0 0), (10, .d (.lit (.int .i64 r14.2))), (11, .mref 53), (12, .d (.lit (.int .i64 v175))), (13, .d (.lit (.int .i64 v176))), (59, .d (.lit (.int .i64 v175))), (60, .d (.lit (.bool (v175 == 0)))), (61, .d (.lit (.bool (v175 == 0))))] [(50, some (.box [.ref 6000 0 r14o.entries.length, .ref 6001 0 r14o.savepoints.length])), (53, some (.mp .string (encM MKey.sk (vI .i64) m174))), (6000, some (.arr 30 2 (r14o.entries.map cS30))), (6001, some (.arr 22 1 (r14o.savepoints.map (cL cS30))))]) Sub.tt ?_
        cases h
        exact Chain.nil Sub.tt
       ·have c246_ : decide (v176 < (a0.length : Int)) = false := decide_eq_false c246
        refine Chain.sub (Sub.bool 58 (b := decide (v176 < (a0.length : Int))) rfl c246_) ?_
        refine Chain.sub (S' := mk 234 [] [(0, .d (.sl (a0.map cS30))), (1, .d (.sl (a1.map (cL (cI .i64))))), (2, .d (.sl (a2.map cS))), (9, .ptr 50 0 0), (10, .d (.lit (.int .i64 r14.2))), (11, .mref 53), (12, .d (.lit (.int .i64 v175))), (13, .d (.lit (.int .i64 v176))), (58, .d (.lit (.bool false)))] [(50, some (.box [.ref 6000 0 r14o.entries.length, .ref 6001 0 r14o.savepoints.length])), (53, some (.mp .string (encM MKey.sk (vI .i64) m174))), (6000, some (.arr 30 2 (r14o.entries.map cS30))), (6001, some (.arr 22 1 (r14o.savepoints.map (cL cS30))))]) (by simp; exact Sub.table (by simp) (by simp)) ?_
        refine Chain.runK [] 3 fun K hK => ?_; simp; refine hK _ _ ?_; clear hK K
        refine Chain.sub (S' := mk 234 [] [(0, .d (.sl (a0.map cS30))), (1, .d (.sl (a1.map (cL (cI .i64))))), (2, .d (.sl (a2.map cS))), (9, .ptr 50 0 0), (10, .d (.lit (.int .i64 r14.2))), (11, .mref 53), (12, .d (.lit (.int .i64 v175))), (13, .d (.lit (.int .i64 v176))), (59, .tup []), (60, .tup []), (61, .d (.lit (.bool false)))] [(50, some (.box [.ref 6000 0 r14o.entries.length, .ref 6001 0 r14o.savepoints.length])), (53, some (.mp .string (encM MKey.sk (vI .i64) m174))), (6000, some (.arr 30 2 (r14o.entries.map cS30))), (6001, some (.arr 22 1 (r14o.savepoints.map (cL cS30))))]) Sub.tt ?_
        cases h
        exact Chain.nil Sub.tt
      ·clear hj
       replace h := isome h; rcases h with ⟨c247, h⟩ | ⟨c247, h⟩
       ·have c247_ : v245 = true := c247
        refine AW.condT (b := v245) rfl c247_ ?_
        refine AW.sub (Sub.bool 61 (b := v245) rfl c247_) ?_
        refine AW.sub (S' := mk 234 [] [(0, .d (.sl (a0.map cS30))), (1, .d (.sl (a1.map (cL (cI .i64))))), (2, .d (.sl (a2.map cS))), (9, .ptr 50 0 0), (10, .d (.lit (.int .i64 r14.2))), (11, .mref 53), (12, .d (.lit (.int .i64 v175))), (13, .d (.lit (.int .i64 v176))), (61, .d (.lit (.bool true)))] [(50, some (.box [.ref 6000 0 r14o.entries.length, .ref 6001 0 r14o.savepoints.length])), (53, some (.mp .string (encM MKey.sk (vI .i64) m174))), (6000, some (.arr 30 2 (r14o.entries.map cS30))), (6001, some (.arr 22 1 (r14o.savepoints.map (cL cS30))))]) (by simp; exact Sub.table (by simp) (by simp)) ?_
        refine AW.skip ?_
        refine thenQ_normal ?_
        refine AW.seq ?_
        refine AW.block ?_
        refine AW.seq ?_
        refine AW.block ?_
        replace h := bsome h; obtain ⟨v254, hj, h⟩ := h
        refine AW.cutQ (by kernel_rfl) (by kernel_rfl) (mk 234 [] [(0, .d (.sl (a0.map cS30))), (1, .d (.sl (a1.map (cL (cI .i64))))), (2, .d (.sl (a2.map cS))), (9, .ptr 50 0 0), (10, .d (.lit (.int .i64 r14.2))), (11, .mref 53), (12, .d (.lit (.int .i64 v175))), (13, .d (.lit (.int .i64 v176))), (64, .d (.lit (.bool v254)))] [(50, some (.box [.ref 6000 0 r14o.entries.length, .ref 6001 0 r14o.savepoints.length])), (53, some (.mp .string (encM MKey.sk (vI .i64) m174))), (6000, some (.arr 30 2 (r14o.entries.map cS30))), (6001, some (.arr 22 1 (r14o.savepoints.map (cL cS30))))]) ?_ ?_
        ·clear h; have h := hj; clear hj
         refine Chain.runQ 3 fun K hK => ?_; simp; refine hK _ _ ?_; clear hK K
         refine Chain.sub (S' := mk 234 [] [(0, .d (.sl (a0.map cS30))), (1, .d (.sl (a1.map (cL (cI .i64))))), (2, .d (.sl (a2.map cS))), (9, .ptr 50 0 0), (10, .d (.lit (.int .i64 r14.2))), (11, .mref 53), (12, .d (.lit (.int .i64 v175))), (13, .d (.lit (.int .i64 v176))), (67, .d (.lit (.bool (decide (v176 > 0)))))] [(50, some (.box [.ref 6000 0 r14o.entries.length, .ref 6001 0 r14o.savepoints.length])), (53, some (.mp .string (encM MKey.sk (vI .i64) m174))), (6000, some (.arr 30 2 (r14o.entries.map cS30))), (6001, some (.arr 22 1 (r14o.savepoints.map (cL cS30))))]) Sub.tt ?_
         replace h := isome h; rcases h with ⟨c255, h⟩ | ⟨c255, h⟩
         ·have c255_ : decide (v176 > 0) = true := decide_eq_true c255
          refine Chain.sub (Sub.bool 67 (b := decide (v176 > 0)) rfl c255_) ?_
          refine Chain.sub (S' := mk 234 [] [(0, .d (.sl (a0.map cS30))), (1, .d (.sl (a1.map (cL (cI .i64))))), (2, .d (.sl (a2.map cS))), (9, .ptr 50 0 0), (10, .d (.lit (.int .i64 r14.2))), (11, .mref 53), (12, .d (.lit (.int .i64 v175))), (13, .d (.lit (.int .i64 v176))), (67, .d (.lit (.bool true)))] [(50, some (.box [.ref 6000 0 r14o.entries.length, .ref 6001 0 r14o.savepoints.length])), (53, some (.mp .string (encM MKey.sk (vI .i64) m174))), (6000, some (.arr 30 2 (r14o.entries.map cS30))), (6001, some (.arr 22 1 (r14o.savepoints.map (cL cS30))))]) (by simp; exact Sub.table (by simp) (by simp)) ?_
          replace h := bsome h; obtain ⟨v256, hv256, h⟩ := h
          have hv256 := chkI_some hv256
          replace h := bsome h; obtain ⟨x257, hx257, h⟩ := h
          obtain ⟨k258, hx257k, hx257, hx257a, hx257b⟩ := idx_some hx257
          replace h := bsome h; obtain ⟨x259, hx259, h⟩ := h
          obtain ⟨k260, hx259k, hx259, hx259a, hx259b⟩ := idx_some hx259
          refine Chain.runQ 14 fun K hK => ?_; simp [hv256, hx257, hx257k, hx257a, hx259, hx259k, hx259a]; refine hK _ _ ?_; clear hK K
          refine Chain.sub (S' := mk 234 [] [(0, .d (.sl (a0.map cS30))), (1, .d (.sl (a1.map (cL (cI .i64))))), (2, .d (.sl (a2.map cS))), (9, .ptr 50 0 0), (10, .d (.lit (.int .i64 r14.2))), (11, .mref 53), (12, .d (.lit (.int .i64 v175))), (13, .d (.lit (.int .i64 v176))), (64, .d (.lit (.bool (!Op.bytesLess x257.Key.toList x259.Key.toList)))), (68, .d (.sl (a0.map cS30))), (69, .d (.lit (.int .i64 v176))), (70, .d (.lit (.int .i64 v256))), (71, .d (.pim [.lit (.string x257.Key), .lit (.int .i64 x257.Value)])), (72, .d (.pim [.lit (.string x257.Key), .lit (.int .i64 x257.Value)])), (73, .d (.lit (.string x257.Key))), (74, .d (.sl (a0.map cS30))), (75, .d (.lit (.int .i64 v176))), (76, .d (.pim [.lit (.string x259.Key), .lit (.int .i64 x259.Value)])), (77, .d (.pim [.lit (.string x259.Key), .lit (.int .i64 x259.Value)])), (78, .d (.lit (.string x259.Key))), (79, .d (.lit (.bool (!Op.bytesLess x257.Key.toList x259.Key.toList))))] [(50, some (.box [.ref 6000 0 r14o.entries.length, .ref 6001 0 r14o.savepoints.length])), (53, some (.mp .string (encM MKey.sk (vI .i64) m174))), (6000, some (.arr 30 2 (r14o.entries.map cS30))), (6001, some (.arr 22 1 (r14o.savepoints.map (cL cS30))))]) Sub.tt ?_
          cases h
          exact Chain.nil Sub.tt
         ·have c255_ : decide (v176 > 0) = false := decide_eq_false c255
          refine Chain.sub (Sub.bool 67 (b := decide (v176 > 0)) rfl c255_) ?_
          refine Chain.sub (S' := mk 234 [] [(0, .d (.sl (a0.map cS30))), (1, .d (.sl (a1.map (cL (cI .i64))))), (2, .d (.sl (a2.map cS))), (9, .ptr 50 0 0), (10, .d (.lit (.int .i64 r14.2))), (11, .mref 53), (12, .d (.lit (.int .i64 v175))), (13, .d (.lit (.int .i64 v176))), (67, .d (.lit (.bool false)))] [(50, some (.box [.ref 6000 0 r14o.entries.length, .ref 6001 0 r14o.savepoints.length])), (53, some (.mp .string (encM MKey.sk (vI .i64) m174))), (6000, some (.arr 30 2 (r14o.entries.map cS30))), (6001, some (.arr 22 1 (r14o.savepoints.map (cL cS30))))]) (by simp; exact Sub.table (by simp) (by simp)) ?_
          refine Chain.runQ 14 fun K hK => ?_; simp; refine hK _ _ ?_; clear hK K
          refine Chain.sub (S' := mk 234 [] [(0, .d (.sl (a0.map cS30))), (1, .d (.sl (a1.map (cL (cI .i64))))), (2, .d (.sl (a2.map cS))), (9, .ptr 50 0 0), (10, .d (.lit (.int .i64 r14.2))), (11, .mref 53), (12, .d (.lit (.int .i64 v175))), (13, .d (.lit (.int .i64 v176))), (64, .d (.lit (.bool false))), (68, .tup []), (69, .tup []), (70, .tup []), (71, .tup []), (72, .tup []), (73, .tup []), (74, .tup []), (75, .tup []), (76, .tup []), (77, .tup []), (78, .tup []), (79, .tup [])] [(50, some (.box [.ref 6000 0 r14o.entries.length, .ref 6001 0 r14o.savepoints.length])), (53, some (.mp .string (encM MKey.sk (vI .i64) m174))), (6000, some (.arr 30 2 (r14o.entries.map cS30))), (6001, some (.arr 22 1 (r14o.savepoints.map (cL cS30))))]) Sub.tt ?_
          cases h
          exact Chain.nil Sub.tt
        ·clear hj
         refine AW.lastN (fun (v266 : Int) => mk 234 [] [(0, .d (.sl (a0.map cS30))), (1, .d (.sl (a1.map (cL (cI .i64))))), (2, .d (.sl (a2.map cS))), (9, .ptr 50 0 0), (10, .d (.lit (.int .i64 r14.2))), (11, .mref 53), (12, .d (.lit (.int .i64 v266))), (13, .d (.lit (.int .i64 v176)))] [(50, some (.box [.ref 6000 0 r14o.entries.length, .ref 6001 0 r14o.savepoints.length])), (53, some (.mp .string (encM MKey.sk (vI .i64) m174))), (6000, some (.arr 30 2 (r14o.entries.map cS30))), (6001, some (.arr 22 1 (r14o.savepoints.map (cL cS30))))]) h ?_ ?_ <;> clear h
         ·intro o h
          replace h := isome h; rcases h with ⟨c267, h⟩ | ⟨c267, h⟩
          ·have c267_ : v254 = true := c267
           refine AW.condT (b := v254) rfl c267_ ?_
           refine AW.sub (Sub.bool 64 (b := v254) rfl c267_) ?_
           refine AW.sub (S' := mk 234 [] [(0, .d (.sl (a0.map cS30))), (1, .d (.sl (a1.map (cL (cI .i64))))), (2, .d (.sl (a2.map cS))), (9, .ptr 50 0 0), (10, .d (.lit (.int .i64 r14.2))), (11, .mref 53), (12, .d (.lit (.int .i64 v175))), (13, .d (.lit (.int .i64 v176))), (64, .d (.lit (.bool true)))] [(50, some (.box [.ref 6000 0 r14o.entries.length, .ref 6001 0 r14o.savepoints.length])), (53, some (.mp .string (encM MKey.sk (vI .i64) m174))), (6000, some (.arr 30 2 (r14o.entries.map cS30))), (6001, some (.arr 22 1 (r14o.savepoints.map (cL cS30))))]) (by simp; exact Sub.table (by simp) (by simp)) ?_
           refine AW.region ?_
           refine Chain.runK [] 1 fun K hK => ?_; simp; refine hK _ _ ?_; clear hK K
           refine Chain.sub (S' := mk 234 [] [(0, .d (.sl (a0.map cS30))), (1, .d (.sl (a1.map (cL (cI .i64))))), (2, .d (.sl (a2.map cS))), (9, .ptr 50 0 0), (10, .d (.lit (.int .i64 r14.2))), (11, .mref 53), (12, .d (.lit (.int .i64 6))), (13, .d (.lit (.int .i64 v176)))] [(50, some (.box [.ref 6000 0 r14o.entries.length, .ref 6001 0 r14o.savepoints.length])), (53, some (.mp .string (encM MKey.sk (vI .i64) m174))), (6000, some (.arr 30 2 (r14o.entries.map cS30))), (6001, some (.arr 22 1 (r14o.savepoints.map (cL cS30))))]) Sub.tt ?_
           refine Chain.nil ?_
           cases h
           refine PostN.next ?_
           exact Sub.tt
          ·have c267_ : v254 = false := Bool.eq_false_iff.2 c267
           refine AW.condF (b := v254) rfl c267_ ?_
           refine AW.sub (Sub.bool 64 (b := v254) rfl c267_) ?_
           refine AW.sub (S' := mk 234 [] [(0, .d (.sl (a0.map cS30))), (1, .d (.sl (a1.map (cL (cI .i64))))), (2, .d (.sl (a2.map cS))), (9, .ptr 50 0 0), (10, .d (.lit (.int .i64 r14.2))), (11, .mref 53), (12, .d (.lit (.int .i64 v175))), (13, .d (.lit (.int .i64 v176))), (64, .d (.lit (.bool false)))] [(50, some (.box [.ref 6000 0 r14o.entries.length, .ref 6001 0 r14o.savepoints.length])), (53, some (.mp .string (encM MKey.sk (vI .i64) m174))), (6000, some (.arr 30 2 (r14o.entries.map cS30))), (6001, some (.arr 22 1 (r14o.savepoints.map (cL cS30))))]) (by simp; exact Sub.table (by simp) (by simp)) ?_
           refine AW.seqR ?_
           replace h := bsome h; obtain ⟨x268, hx268, h⟩ := h
           obtain ⟨k269, hx268k, hx268, hx268a, hx268b⟩ := idx_some hx268
           refine Chain.runK [] 8 fun K hK => ?_; simp [hx268, hx268k, hx268a]; refine hK _ _ ?_; clear hK K
           refine Chain.sub (S' := mk 234 [] [(0, .d (.sl (a0.map cS30))), (1, .d (.sl (a1.map (cL (cI .i64))))), (2, .d (.sl (a2.map cS))), (9, .ptr 50 0 0), (10, .d (.lit (.int .i64 r14.2))), (11, .mref 53), (12, .d (.lit (.int .i64 v175))), (13, .d (.lit (.int .i64 v176))), (81, .d (.lit (.bool (decide ((x268.Key.size : Int) > 24)))))] [(50, some (.box [.ref 6000 0 r14o.entries.length, .ref 6001 0 r14o.savepoints.length])), (53, some (.mp .string (encM MKey.sk (vI .i64) m174))), (6000, some (.arr 30 2 (r14o.entries.map cS30))), (6001, some (.arr 22 1 (r14o.savepoints.map (cL cS30))))]) Sub.tt ?_
           refine Chain.nil ?_
           replace h := isome h; rcases h with ⟨c270, h⟩ | ⟨c270, h⟩
           ·have c270_ : decide ((x268.Key.size : Int) > 24) = true := decide_eq_true c270
            refine AW.condT (b := decide ((x268.Key.size : Int) > 24)) rfl c270_ ?_
            refine AW.sub (Sub.bool 81 (b := decide ((x268.Key.size : Int) > 24)) rfl c270_) ?_
            refine AW.sub (S' := mk 234 [] [(0, .d (.sl (a0.map cS30))), (1, .d (.sl (a1.map (cL (cI .i64))))), (2, .d (.sl (a2.map cS))), (9, .ptr 50 0 0), (10, .d (.lit (.int .i64 r14.2))), (11, .mref 53), (12, .d (.lit (.int .i64 v175))), (13, .d (.lit (.int .i64 v176))), (81, .d (.lit (.bool true)))] [(50, some (.box [.ref 6000 0 r14o.entries.length, .ref 6001 0 r14o.savepoints.length])), (53, some (.mp .string (encM MKey.sk (vI .i64) m174))), (6000, some (.arr 30 2 (r14o.entries.map cS30))), (6001, some (.arr 22 1 (r14o.savepoints.map (cL cS30))))]) (by simp; exact Sub.table (by simp) (by simp)) ?_
            refine AW.region ?_
            refine Chain.runK [] 1 fun K hK => ?_; simp; refine hK _ _ ?_; clear hK K
            refine Chain.sub (S' := mk 234 [] [(0, .d (.sl (a0.map cS30))), (1, .d (.sl (a1.map (cL (cI .i64))))), (2, .d (.sl (a2.map cS))), (9, .ptr 50 0 0), (10, .d (.lit (.int .i64 r14.2))), (11, .mref 53), (12, .d (.lit (.int .i64 2))), (13, .d (.lit (.int .i64 v176)))] [(50, some (.box [.ref 6000 0 r14o.entries.length, .ref 6001 0 r14o.savepoints.length])), (53, some (.mp .string (encM MKey.sk (vI .i64) m174))), (6000, some (.arr 30 2 (r14o.entries.map cS30))), (6001, some (.arr 22 1 (r14o.savepoints.map (cL cS30))))]) Sub.tt ?_
            refine Chain.nil ?_
            cases h
            refine PostN.next ?_
            exact Sub.tt
           ·have c270_ : decide ((x268.Key.size : Int) > 24) = false := decide_eq_false c270
            refine AW.condF (b := decide ((x268.Key.size : Int) > 24)) rfl c270_ ?_
            refine AW.sub (Sub.bool 81 (b := decide ((x268.Key.size : Int) > 24)) rfl c270_) ?_
            refine AW.sub (S' := mk 234 [] [(0, .d (.sl (a0.map cS30))), (1, .d (.sl (a1.map (cL (cI .i64))))), (2, .d (.sl (a2.map cS))), (9, .ptr 50 0 0), (10, .d (.lit (.int .i64 r14.2))), (11, .mref 53), (12, .d (.lit (.int .i64 v175))), (13, .d (.lit (.int .i64 v176))), (81, .d (.lit (.bool false)))] [(50, some (.box [.ref 6000 0 r14o.entries.length, .ref 6001 0 r14o.savepoints.length])), (53, some (.mp .string (encM MKey.sk (vI .i64) m174))), (6000, some (.arr 30 2 (r14o.entries.map cS30))), (6001, some (.arr 22 1 (r14o.savepoints.map (cL cS30))))]) (by simp; exact Sub.table (by simp) (by simp)) ?_
            refine AW.seqR ?_
            refine Chain.runK [] 1 fun K hK => ?_; simp; refine hK _ _ ?_; clear hK K
            refine Chain.sub (S' := mk 234 [] [(0, .d (.sl (a0.map cS30))), (1, .d (.sl (a1.map (cL (cI .i64))))), (2, .d (.sl (a2.map cS))), (9, .ptr 50 0 0), (10, .d (.lit (.int .i64 r14.2))), (11, .mref 53), (12, .d (.lit (.int .i64 v175))), (13, .d (.lit (.int .i64 v176))), (90, .mref 53)] [(50, some (.box [.ref 6000 0 r14o.entries.length, .ref 6001 0 r14o.savepoints.length])), (53, some (.mp .string (encM MKey.sk (vI .i64) m174))), (6000, some (.arr 30 2 (r14o.entries.map cS30))), (6001, some (.arr 22 1 (r14o.savepoints.map (cL cS30))))]) Sub.tt ?_
            refine Chain.pureP (by simp) (pure_lenM (id := 53) rfl rfl rfl ty32 rfl (by simp) rfl) ?_
            refine Chain.sub (S' := mk 234 [] [(0, .d (.sl (a0.map cS30))), (1, .d (.sl (a1.map (cL (cI .i64))))), (2, .d (.sl (a2.map cS))), (9, .ptr 50 0 0), (10, .d (.lit (.int .i64 r14.2))), (11, .mref 53), (12, .d (.lit (.int .i64 v175))), (13, .d (.lit (.int .i64 v176))), (90, .mref 53), (91, .d (.lit (.int .i64 (m174.length : Int))))] [(50, some (.box [.ref 6000 0 r14o.entries.length, .ref 6001 0 r14o.savepoints.length])), (53, some (.mp .string (encM MKey.sk (vI .i64) m174))), (6000, some (.arr 30 2 (r14o.entries.map cS30))), (6001, some (.arr 22 1 (r14o.savepoints.map (cL cS30))))]) (by simp; exact Sub.table (by simp) (by simp)) ?_
            refine Chain.runK [] 2 fun K hK => ?_; simp; refine hK _ _ ?_; clear hK K
            refine Chain.sub (S' := mk 234 [] [(0, .d (.sl (a0.map cS30))), (1, .d (.sl (a1.map (cL (cI .i64))))), (2, .d (.sl (a2.map cS))), (9, .ptr 50 0 0), (10, .d (.lit (.int .i64 r14.2))), (11, .mref 53), (12, .d (.lit (.int .i64 v175))), (13, .d (.lit (.int .i64 v176))), (89, .d (.lit (.bool ((m174.length : Int) == 40))))] [(50, some (.box [.ref 6000 0 r14o.entries.length, .ref 6001 0 r14o.savepoints.length])), (53, some (.mp .string (encM MKey.sk (vI .i64) m174))), (6000, some (.arr 30 2 (r14o.entries.map cS30))), (6001, some (.arr 22 1 (r14o.savepoints.map (cL cS30))))]) Sub.tt ?_
            refine Chain.nil ?_
            replace h := isome h; rcases h with ⟨c271, h⟩ | ⟨c271, h⟩
            ·have c271_ : ((m174.length : Int) == 40) = true := c271
             refine AW.condT (b := ((m174.length : Int) == 40)) rfl c271_ ?_
             refine AW.sub (Sub.bool 89 (b := ((m174.length : Int) == 40)) rfl c271_) ?_
             refine AW.sub (S' := mk 234 [] [(0, .d (.sl (a0.map cS30))), (1, .d (.sl (a1.map (cL (cI .i64))))), (2, .d (.sl (a2.map cS))), (9, .ptr 50 0 0), (10, .d (.lit (.int .i64 r14.2))), (11, .mref 53), (12, .d (.lit (.int .i64 v175))), (13, .d (.lit (.int .i64 v176))), (89, .d (.lit (.bool true)))] [(50, some (.box [.ref 6000 0 r14o.entries.length, .ref 6001 0 r14o.savepoints.length])), (53, some (.mp .string (encM MKey.sk (vI .i64) m174))), (6000, some (.arr 30 2 (r14o.entries.map cS30))), (6001, some (.arr 22 1 (r14o.savepoints.map (cL cS30))))]) (by simp; exact Sub.table (by simp) (by simp)) ?_
             refine AW.region ?_
             refine Chain.runK [] 1 fun K hK => ?_; simp; refine hK _ _ ?_; clear hK K
             refine Chain.sub (S' := mk 234 [] [(0, .d (.sl (a0.map cS30))), (1, .d (.sl (a1.map (cL (cI .i64))))), (2, .d (.sl (a2.map cS))), (9, .ptr 50 0 0), (10, .d (.lit (.int .i64 r14.2))), (11, .mref 53), (12, .d (.lit (.int .i64 18))), (13, .d (.lit (.int .i64 v176)))] [(50, some (.box [.ref 6000 0 r14o.entries.length, .ref 6001 0 r14o.savepoints.length])), (53, some (.mp .string (encM MKey.sk (vI .i64) m174))), (6000, some (.arr 30 2 (r14o.entries.map cS30))), (6001, some (.arr 22 1 (r14o.savepoints.map (cL cS30))))]) Sub.tt ?_
             refine Chain.nil ?_
             cases h
             refine PostN.next ?_
             exact Sub.tt
            ·have c271_ : ((m174.length : Int) == 40) = false := Bool.eq_false_iff.2 c271
             refine AW.condF (b := ((m174.length : Int) == 40)) rfl c271_ ?_
             refine AW.sub (Sub.bool 89 (b := ((m174.length : Int) == 40)) rfl c271_) ?_
             refine AW.sub (S' := mk 234 [] [(0, .d (.sl (a0.map cS30))), (1, .d (.sl (a1.map (cL (cI .i64))))), (2, .d (.sl (a2.map cS))), (9, .ptr 50 0 0), (10, .d (.lit (.int .i64 r14.2))), (11, .mref 53), (12, .d (.lit (.int .i64 v175))), (13, .d (.lit (.int .i64 v176))), (89, .d (.lit (.bool false)))] [(50, some (.box [.ref 6000 0 r14o.entries.length, .ref 6001 0 r14o.savepoints.length])), (53, some (.mp .string (encM MKey.sk (vI .i64) m174))), (6000, some (.arr 30 2 (r14o.entries.map cS30))), (6001, some (.arr 22 1 (r14o.savepoints.map (cL cS30))))]) (by simp; exact Sub.table (by simp) (by simp)) ?_
             refine AW.skip ?_
             cases h
             refine PostN.next ?_
             exact Sub.tt
         ·rintro v266 h
          refine blockQ.normal ?_
          refine thenQ_normal ?_
          replace h := bsome h; obtain ⟨x272, hx272, h⟩ := h
          obtain ⟨k273, hx272k, hx272, hx272a, hx272b⟩ := idx_some hx272
          refine AW.regionT 11 (by kernel_rfl) (by kernel_rfl) fun K hK => ?_; simp [hx272, hx272k, hx272a]; refine hK _ _ ?_; clear hK K
          refine Chain.sub (S' := mk 234 [] [(0, .d (.sl (a0.map cS30))), (1, .d (.sl (a1.map (cL (cI .i64))))), (2, .d (.sl (a2.map cS))), (9, .ptr 50 0 0), (10, .d (.lit (.int .i64 r14.2))), (11, .mref 53), (12, .d (.lit (.int .i64 v266))), (13, .d (.lit (.int .i64 v176))), (93, .mref 53), (98, .d (.lit (.string x272.Key))), (103, .d (.lit (.int .i64 x272.Value)))] [(50, some (.box [.ref 6000 0 r14o.entries.length, .ref 6001 0 r14o.savepoints.length])), (53, some (.mp .string (encM MKey.sk (vI .i64) m174))), (6000, some (.arr 30 2 (r14o.entries.map cS30))), (6001, some (.arr 22 1 (r14o.savepoints.map (cL cS30))))]) Sub.tt ?_
          refine Chain.msetE (vf := (vI .i64)) sk_inj m174 x272.Key x272.Value (by simp) (.inl rfl) ty32 rfl ty9 rfl rfl rfl rfl rfl rfl rfl ?_
          refine Chain.sub (S' := mk 234 [] [(0, .d (.sl (a0.map cS30))), (1, .d (.sl (a1.map (cL (cI .i64))))), (2, .d (.sl (a2.map cS))), (9, .ptr 50 0 0), (10, .d (.lit (.int .i64 r14.2))), (11, .mref 53), (12, .d (.lit (.int .i64 v266))), (13, .d (.lit (.int .i64 v176))), (93, .mref 53), (98, .d (.lit (.string x272.Key))), (103, .d (.lit (.int .i64 x272.Value)))] [(50, some (.box [.ref 6000 0 r14o.entries.length, .ref 6001 0 r14o.savepoints.length])), (53, some (.mp .string (encM MKey.sk (vI .i64) (mput m174 x272.Key x272.Value)))), (6000, some (.arr 30 2 (r14o.entries.map cS30))), (6001, some (.arr 22 1 (r14o.savepoints.map (cL cS30))))]) (by simp; exact Sub.table (by simp) (by simp)) ?_
          refine Chain.nil ?_
          refine blockQ.normal ?_
          refine thenQ_normal ?_
          refine AW.region ?_
          replace h := bsome h; obtain ⟨v274, hv274, h⟩ := h
          have hv274 := chkI_some hv274
          refine Chain.runK [] 3 fun K hK => ?_; simp [hv274]; refine hK _ _ ?_; clear hK K
          refine Chain.sub (S' := mk 234 [] [(0, .d (.sl (a0.map cS30))), (1, .d (.sl (a1.map (cL (cI .i64))))), (2, .d (.sl (a2.map cS))), (9, .ptr 50 0 0), (10, .d (.lit (.int .i64 r14.2))), (11, .mref 53), (12, .d (.lit (.int .i64 v266))), (13, .d (.lit (.int .i64 v274)))] [(50, some (.box [.ref 6000 0 r14o.entries.length, .ref 6001 0 r14o.savepoints.length])), (53, some (.mp .string (encM MKey.sk (vI .i64) (mput m174 x272.Key x272.Value)))), (6000, some (.arr 30 2 (r14o.entries.map cS30))), (6001, some (.arr 22 1 (r14o.savepoints.map (cL cS30))))]) Sub.tt ?_
          refine Chain.nil ?_
          cases h
          refine PostI.next ?_
          exact Sub.tt
       ·have c247_ : v245 = false := Bool.eq_false_iff.2 c247
        refine AW.condF (b := v245) rfl c247_ ?_
        refine AW.sub (Sub.bool 61 (b := v245) rfl c247_) ?_
        refine AW.sub (S' := mk 234 [] [(0, .d (.sl (a0.map cS30))), (1, .d (.sl (a1.map (cL (cI .i64))))), (2, .d (.sl (a2.map cS))), (9, .ptr 50 0 0), (10, .d (.lit (.int .i64 r14.2))), (11, .mref 53), (12, .d (.lit (.int .i64 v175))), (13, .d (.lit (.int .i64 v176))), (61, .d (.lit (.bool false)))] [(50, some (.box [.ref 6000 0 r14o.entries.length, .ref 6001 0 r14o.savepoints.length])), (53, some (.mp .string (encM MKey.sk (vI .i64) m174))), (6000, some (.arr 30 2 (r14o.entries.map cS30))), (6001, some (.arr 22 1 (r14o.savepoints.map (cL cS30))))]) (by simp; exact Sub.table (by simp) (by simp)) ?_
        refine AW.exit ?_
        cases h
        refine thenQ_pass (by simp) ?_
        refine PostI.out (by simp) ?_
        rintro rfl
        refine blockQ.hit ?_
        refine PostN.next ?_
        exact Sub.tt
     ·rintro ⟨m242, v243⟩ h
      dsimp only at h ⊢
      refine thenQ_normal ?_
      refine AW.seq ?_
      refine AW.seqR ?_
      refine Chain.runK [] 2 fun K hK => ?_; simp; refine hK _ _ ?_; clear hK K
      refine Chain.sub (S' := mk 234 [] [(1, .d (.sl (a1.map (cL (cI .i64))))), (2, .d (.sl (a2.map cS))), (9, .ptr 50 0 0), (10, .d (.lit (.int .i64 r14.2))), (11, .mref 53), (12, .d (.lit (.int .i64 v243))), (105, .d (.lit (.bool (v243 != 0))))] [(50, some (.box [.ref 6000 0 r14o.entries.length, .ref 6001 0 r14o.savepoints.length])), (53, some (.mp .string (encM MKey.sk (vI .i64) m242))), (6000, some (.arr 30 2 (r14o.entries.map cS30))), (6001, some (.arr 22 1 (r14o.savepoints.map (cL cS30))))]) Sub.tt ?_
      refine Chain.nil ?_
      replace h := isome h; rcases h with ⟨c275, h⟩ | ⟨c275, h⟩
      ·have c275_ : (v243 != 0) = true := c275
       refine AW.condT (b := (v243 != 0)) rfl c275_ ?_
       refine AW.sub (Sub.bool 105 (b := (v243 != 0)) rfl c275_) ?_
       refine AW.sub (S' := mk 234 [] [(1, .d (.sl (a1.map (cL (cI .i64))))), (2, .d (.sl (a2.map cS))), (9, .ptr 50 0 0), (10, .d (.lit (.int .i64 r14.2))), (11, .mref 53), (12, .d (.lit (.int .i64 v243))), (105, .d (.lit (.bool true)))] [(50, some (.box [.ref 6000 0 r14o.entries.length, .ref 6001 0 r14o.savepoints.length])), (53, some (.mp .string (encM MKey.sk (vI .i64) m242))), (6000, some (.arr 30 2 (r14o.entries.map cS30))), (6001, some (.arr 22 1 (r14o.savepoints.map (cL cS30))))]) (by simp; exact Sub.table (by simp) (by simp)) ?_
       replace h := bsome h; obtain ⟨⟨⟩, hj, h⟩ := h
       refine AW.cutR (mk 234 [] [(6, .d (.lit (.bool false)))] []) ?_ ?_
       ·clear h; have h := hj; clear hj
        refine Chain.runK [] 4 fun K hK => ?_; simp; refine hK _ _ ?_; clear hK K
        refine Chain.sub (S' := mk 234 [] [(9, .ptr 50 0 0), (109, .d (.lit (.bool (r14.2 == v243))))] [(50, some (.box [.ref 6000 0 r14o.entries.length, .ref 6001 0 r14o.savepoints.length])), (6000, some (.arr 30 2 (r14o.entries.map cS30))), (6001, some (.arr 22 1 (r14o.savepoints.map (cL cS30))))]) Sub.tt ?_
        replace h := isome h; rcases h with ⟨c277, h⟩ | ⟨c277, h⟩
        ·have c277_ : (r14.2 == v243) = true := c277
         refine Chain.sub (Sub.bool 109 (b := (r14.2 == v243)) rfl c277_) ?_
         refine Chain.sub (S' := mk 234 [] [(9, .ptr 50 0 0), (109, .d (.lit (.bool true)))] [(50, some (.box [.ref 6000 0 r14o.entries.length, .ref 6001 0 r14o.savepoints.length])), (6000, some (.arr 30 2 (r14o.entries.map cS30))), (6001, some (.arr 22 1 (r14o.savepoints.map (cL cS30))))]) (by simp; exact Sub.table (by simp) (by simp)) ?_
         refine Chain.runK [] 4 fun K hK => ?_; simp; refine hK _ _ ?_; clear hK K
         refine Chain.sub (S' := mk 234 [] [(6, .d (.lit (.bool false)))] []) Sub.tt ?_
         cases h
         exact Chain.nil Sub.tt
        ·have c277_ : (r14.2 == v243) = false := Bool.eq_false_iff.2 c277
         refine Chain.sub (Sub.bool 109 (b := (r14.2 == v243)) rfl c277_) ?_
         refine Chain.sub (S' := mk 234 [] [(9, .ptr 50 0 0), (109, .d (.lit (.bool false)))] [(50, some (.box [.ref 6000 0 r14o.entries.length, .ref 6001 0 r14o.savepoints.length])), (6000, some (.arr 30 2 (r14o.entries.map cS30))), (6001, some (.arr 22 1 (r14o.savepoints.map (cL cS30))))]) (by simp; exact Sub.table (by simp) (by simp)) ?_
         refine Chain.runK [] 4 fun K hK => ?_; simp; refine hK _ _ ?_; clear hK K
         refine Chain.sub (S' := mk 234 [] [(6, .d (.lit (.bool false)))] []) Sub.tt ?_
         cases h
         exact Chain.nil Sub.tt
       ·clear hj
        refine AW.ret ?_
        cases h
        refine thenQ_pass (by simp) ?_
        exact FinC.ret (by simp) (by simp)
      ·have c275_ : (v243 != 0) = false := Bool.eq_false_iff.2 c275
       refine AW.condF (b := (v243 != 0)) rfl c275_ ?_
       refine AW.sub (Sub.bool 105 (b := (v243 != 0)) rfl c275_) ?_
       refine AW.sub (S' := mk 234 [] [(1, .d (.sl (a1.map (cL (cI .i64))))), (2, .d (.sl (a2.map cS))), (9, .ptr 50 0 0), (10, .d (.lit (.int .i64 r14.2))), (11, .mref 53), (12, .d (.lit (.int .i64 v243))), (105, .d (.lit (.bool false)))] [(50, some (.box [.ref 6000 0 r14o.entries.length, .ref 6001 0 r14o.savepoints.length])), (53, some (.mp .string (encM MKey.sk (vI .i64) m242))), (6000, some (.arr 30 2 (r14o.entries.map cS30))), (6001, some (.arr 22 1 (r14o.savepoints.map (cL cS30))))]) (by simp; exact Sub.table (by simp) (by simp)) ?_
       refine AW.skip ?_
       refine thenQ_normal ?_
       refine AW.seq ?_
       replace h := bsome h; obtain ⟨v279, hj, h⟩ := h
       refine AW.cutR (mk 234 [] [(1, .d (.sl (a1.map (cL (cI .i64))))), (2, .d (.sl (a2.map cS))), (9, .ptr 50 0 0), (11, .mref 53), (118, .d (.lit (.bool v279)))] [(50, some (.box [.ref 6000 0 r14o.entries.length, .ref 6001 0 r14o.savepoints.length])), (53, some (.mp .string (encM MKey.sk (vI .i64) m242))), (6000, some (.arr 30 2 (r14o.entries.map cS30))), (6001, some (.arr 22 1 (r14o.savepoints.map (cL cS30))))]) ?_ ?_
       ·clear h; have h := hj; clear hj
        refine Chain.runK [] 3 fun K hK => ?_; simp; refine hK _ _ ?_; clear hK K
        refine Chain.sub (S' := mk 234 [] [(1, .d (.sl (a1.map (cL (cI .i64))))), (2, .d (.sl (a2.map cS))), (9, .ptr 50 0 0), (11, .mref 53), (115, .d (.lit (.bool (r14.2 != 0))))] [(50, some (.box [.ref 6000 0 r14o.entries.length, .ref 6001 0 r14o.savepoints.length])), (53, some (.mp .string (encM MKey.sk (vI .i64) m242))), (6000, some (.arr 30 2 (r14o.entries.map cS30))), (6001, some (.arr 22 1 (r14o.savepoints.map (cL cS30))))]) Sub.tt ?_
        replace h := isome h; rcases h with ⟨c280, h⟩ | ⟨c280, h⟩
        ·have c280_ : (r14.2 != 0) = true := c280
         refine Chain.sub (Sub.bool 115 (b := (r14.2 != 0)) rfl c280_) ?_
         refine Chain.sub (S' := mk 234 [] [(1, .d (.sl (a1.map (cL (cI .i64))))), (2, .d (.sl (a2.map cS))), (9, .ptr 50 0 0), (11, .mref 53), (115, .d (.lit (.bool true)))] [(50, some (.box [.ref 6000 0 r14o.entries.length, .ref 6001 0 r14o.savepoints.length])), (53, some (.mp .string (encM MKey.sk (vI .i64) m242))), (6000, some (.arr 30 2 (r14o.entries.map cS30))), (6001, some (.arr 22 1 (r14o.savepoints.map (cL cS30))))]) (by simp; exact Sub.table (by simp) (by simp)) ?_
         refine Chain.runK [] 3 fun K hK => ?_; simp; refine hK _ _ ?_; clear hK K
         refine Chain.sub (S' := mk 234 [] [(1, .d (.sl (a1.map (cL (cI .i64))))), (2, .d (.sl (a2.map cS))), (9, .ptr 50 0 0), (11, .mref 53), (118, .d (.lit (.bool true)))] [(50, some (.box [.ref 6000 0 r14o.entries.length, .ref 6001 0 r14o.savepoints.length])), (53, some (.mp .string (encM MKey.sk (vI .i64) m242))), (6000, some (.arr 30 2 (r14o.entries.map cS30))), (6001, some (.arr 22 1 (r14o.savepoints.map (cL cS30))))]) Sub.tt ?_
         cases h
         exact Chain.nil Sub.tt
        ·have c280_ : (r14.2 != 0) = false := Bool.eq_false_iff.2 c280
         refine Chain.sub (Sub.bool 115 (b := (r14.2 != 0)) rfl c280_) ?_
         refine Chain.sub (S' := mk 234 [] [(1, .d (.sl (a1.map (cL (cI .i64))))), (2, .d (.sl (a2.map cS))), (9, .ptr 50 0 0), (11, .mref 53), (115, .d (.lit (.bool false)))] [(50, some (.box [.ref 6000 0 r14o.entries.length, .ref 6001 0 r14o.savepoints.length])), (53, some (.mp .string (encM MKey.sk (vI .i64) m242))), (6000, some (.arr 30 2 (r14o.entries.map cS30))), (6001, some (.arr 22 1 (r14o.savepoints.map (cL cS30))))]) (by simp; exact Sub.table (by simp) (by simp)) ?_
         refine Chain.runK [] 3 fun K hK => ?_; simp; refine hK _ _ ?_; clear hK K
         refine Chain.sub (S' := mk 234 [] [(1, .d (.sl (a1.map (cL (cI .i64))))), (2, .d (.sl (a2.map cS))), (9, .ptr 50 0 0), (11, .mref 53), (118, .d (.lit (.bool false)))] [(50, some (.box [.ref 6000 0 r14o.entries.length, .ref 6001 0 r14o.savepoints.length])), (53, some (.mp .string (encM MKey.sk (vI .i64) m242))), (6000, some (.arr 30 2 (r14o.entries.map cS30))), (6001, some (.arr 22 1 (r14o.savepoints.map (cL cS30))))]) Sub.tt ?_
         cases h
         exact Chain.nil Sub.tt
       ·clear hj
        replace h := isome h; rcases h with ⟨c281, h⟩ | ⟨c281, h⟩
        ·have c281_ : v279 = true := c281
         refine AW.condT (b := v279) rfl c281_ ?_
         refine AW.sub (Sub.bool 118 (b := v279) rfl c281_) ?_
         refine AW.sub (S' := mk 234 [] [(1, .d (.sl (a1.map (cL (cI .i64))))), (2, .d (.sl (a2.map cS))), (9, .ptr 50 0 0), (11, .mref 53), (118, .d (.lit (.bool true)))] [(50, some (.box [.ref 6000 0 r14o.entries.length, .ref 6001 0 r14o.savepoints.length])), (53, some (.mp .string (encM MKey.sk (vI .i64) m242))), (6000, some (.arr 30 2 (r14o.entries.map cS30))), (6001, some (.arr 22 1 (r14o.savepoints.map (cL cS30))))]) (by simp; exact Sub.table (by simp) (by simp)) ?_
         refine AW.seqR ?_
         refine Chain.runK [] 1 fun K hK => ?_; simp; refine hK _ _ ?_; clear hK K
         refine Chain.sub (S' := mk 234 [] [(6, .d (.lit (.bool false)))] []) Sub.tt ?_
         refine Chain.nil ?_
         refine AW.ret ?_
         cases h
         refine thenQ_pass (by simp) ?_
         exact FinC.ret (by simp) (by simp)
        ·have c281_ : v279 = false := Bool.eq_false_iff.2 c281
         refine AW.condF (b := v279) rfl c281_ ?_
         refine AW.sub (Sub.bool 118 (b := v279) rfl c281_) ?_
         refine AW.sub (S' := mk 234 [] [(1, .d (.sl (a1.map (cL (cI .i64))))), (2, .d (.sl (a2.map cS))), (9, .ptr 50 0 0), (11, .mref 53), (118, .d (.lit (.bool false)))] [(50, some (.box [.ref 6000 0 r14o.entries.length, .ref 6001 0 r14o.savepoints.length])), (53, some (.mp .string (encM MKey.sk (vI .i64) m242))), (6000, some (.arr 30 2 (r14o.entries.map cS30))), (6001, some (.arr 22 1 (r14o.savepoints.map (cL cS30))))]) (by simp; exact Sub.table (by simp) (by simp)) ?_
         refine AW.skip ?_
         refine thenQ_normal ?_
         refine AW.seqR ?_
         refine Chain.runK [] 1 fun K hK => ?_; simp; refine hK _ _ ?_; clear hK K
         refine Chain.sub (S' := mk 234 [] [(1, .d (.sl (a1.map (cL (cI .i64))))), (2, .d (.sl (a2.map cS))), (9, .ptr 50 0 0), (11, .mref 53), (14, .d (.lit (.slice none 0 0)))] [(50, some (.box [.ref 6000 0 r14o.entries.length, .ref 6001 0 r14o.savepoints.length])), (53, some (.mp .string (encM MKey.sk (vI .i64) m242))), (6000, some (.arr 30 2 (r14o.entries.map cS30))), (6001, some (.arr 22 1 (r14o.savepoints.map (cL cS30))))]) Sub.tt ?_
         refine Chain.nil ?_
         refine AW.seq ?_
         refine AW.seqR ?_
         refine Chain.runK [] 3 fun K hK => ?_; simp; refine hK _ _ ?_; clear hK K
         refine Chain.sub (S' := mk 234 [] [(2, .d (.sl (a2.map cS))), (9, .ptr 50 0 0), (11, .mref 53), (14, .d (.lit (.slice none 0 0))), (119, .d (.sl (a1.map (cL (cI .i64))))), (120, .d (.lit (.int .i64 (a1.length : Int)))), (121, .d (.lit (.int .i64 0)))] [(50, some (.box [.ref 6000 0 r14o.entries.length, .ref 6001 0 r14o.savepoints.length])), (53, some (.mp .string (encM MKey.sk (vI .i64) m242))), (6000, some (.arr 30 2 (r14o.entries.map cS30))), (6001, some (.arr 22 1 (r14o.savepoints.map (cL cS30))))]) Sub.tt ?_
         refine Chain.nil ?_
         refine AW.lastJ (fun (_ : Unit) => mk 234 [] [] []) h ?_ ?_ <;> clear h
         ·intro o h
          refine AW.block ?_
          refine AW.iter (fun ((l381, l382, m383, l384, v385) : ((List S30) × (List (List S30)) × (List (ByteArray × Int)) × (List (List (ByteArray × Int))) × Int)) => mk 234 [] [(2, .d (.sl (a2.map cS))), (9, .ptr 50 0 0), (11, .mref 53), (14, .ref 183 0 l384.length), (119, .d (.sl (a1.map (cL (cI .i64))))), (120, .d (.lit (.int .i64 (a1.length : Int)))), (121, .d (.lit (.int .i64 v385)))] [(50, some (.box [.ref 6000 0 l381.length, .ref 6001 0 l382.length])), (53, some (.mp .string (encM MKey.sk (vI .i64) m383))), (183, some (.arr 32 1 (l384.map (cM .string false MKey.sk (cI .i64))))), (6000, some (.arr 30 2 (l381.map cS30))), (6001, some (.arr 22 1 (l382.map (cL cS30))))]) h (Sub.trans (Sub.nilOwn (t := 14) (id := 183) (T := 32) (n := 1) rfl rfl (by decide)) (by simp; exact Sub.table (by simp) (by simp))) ?_
          clear h
          rintro ⟨l381, l382, m383, l384, v385⟩ x h
          dsimp only at h ⊢
          refine AW.seqR ?_
          refine Chain.runK [] 1 fun K hK => ?_; simp; refine hK _ _ ?_; clear hK K
          refine Chain.sub (S' := mk 234 [] [(2, .d (.sl (a2.map cS))), (9, .ptr 50 0 0), (11, .mref 53), (14, .ref 183 0 l384.length), (119, .d (.sl (a1.map (cL (cI .i64))))), (120, .d (.lit (.int .i64 (a1.length : Int)))), (121, .d (.lit (.int .i64 v385))), (122, .d (.lit (.bool (decide (v385 < (a1.length : Int))))))] [(50, some (.box [.ref 6000 0 l381.length, .ref 6001 0 l382.length])), (53, some (.mp .string (encM MKey.sk (vI .i64) m383))), (183, some (.arr 32 1 (l384.map (cM .string false MKey.sk (cI .i64))))), (6000, some (.arr 30 2 (l381.map cS30))), (6001, some (.arr 22 1 (l382.map (cL cS30))))]) Sub.tt ?_
          refine Chain.nil ?_
          refine AW.seq ?_
          replace h := isome h; rcases h with ⟨c607, h⟩ | ⟨c607, h⟩
          ·have c607_ : decide (v385 < (a1.length : Int)) = true := decide_eq_true c607
           refine AW.condT (b := decide (v385 < (a1.length : Int))) rfl c607_ ?_
           refine AW.sub (Sub.bool 122 (b := decide (v385 < (a1.length : Int))) rfl c607_) ?_
           refine AW.sub (S' := mk 234 [] [(2, .d (.sl (a2.map cS))), (9, .ptr 50 0 0), (11, .mref 53), (14, .ref 183 0 l384.length), (119, .d (.sl (a1.map (cL (cI .i64))))), (120, .d (.lit (.int .i64 (a1.length : Int)))), (121, .d (.lit (.int .i64 v385))), (122, .d (.lit (.bool true)))] [(50, some (.box [.ref 6000 0 l381.length, .ref 6001 0 l382.length])), (53, some (.mp .string (encM MKey.sk (vI .i64) m383))), (183, some (.arr 32 1 (l384.map (cM .string false MKey.sk (cI .i64))))), (6000, some (.arr 30 2 (l381.map cS30))), (6001, some (.arr 22 1 (l382.map (cL cS30))))]) (by simp; exact Sub.table (by simp) (by simp)) ?_
           refine AW.skip ?_
           refine thenQ_normal ?_
           refine AW.seq ?_
           refine AW.block ?_
           refine AW.seqR ?_
           replace h := bsome h; obtain ⟨x608, hx608, h⟩ := h
           obtain ⟨k609, hx608k, hx608, hx608a, hx608b⟩ := idx_some hx608
           refine Chain.runK [] 3 fun K hK => ?_; simp [hx608, hx608k, hx608a]; refine hK _ _ ?_; clear hK K
           refine Chain.sub (S' := mk 234 [] [(2, .d (.sl (a2.map cS))), (9, .ptr 50 0 0), (11, .mref 53), (14, .ref 183 0 l384.length), (16, .d (.sl (x608.map (cI .i64)))), (119, .d (.sl (a1.map (cL (cI .i64))))), (120, .d (.lit (.int .i64 (a1.length : Int)))), (121, .d (.lit (.int .i64 v385)))] [(50, some (.box [.ref 6000 0 l381.length, .ref 6001 0 l382.length])), (53, some (.mp .string (encM MKey.sk (vI .i64) m383))), (183, some (.arr 32 1 (l384.map (cM .string false MKey.sk (cI .i64))))), (6000, some (.arr 30 2 (l381.map cS30))), (6001, some (.arr 22 1 (l382.map (cL cS30))))]) Sub.tt ?_
           refine Chain.nil ?_
           refine AW.seqR ?_
           refine Chain.runK [] 2 fun K hK => ?_; simp; refine hK _ _ ?_; clear hK K
           refine Chain.sub (S' := mk 234 [] [(2, .d (.sl (a2.map cS))), (9, .ptr 50 0 0), (11, .mref 53), (14, .ref 183 0 l384.length), (16, .d (.sl (x608.map (cI .i64)))), (119, .d (.sl (a1.map (cL (cI .i64))))), (120, .d (.lit (.int .i64 (a1.length : Int)))), (121, .d (.lit (.int .i64 v385))), (125, .d (.sl (a2.map cS))), (126, .d (.sl (x608.map (cI .i64))))] [(50, some (.box [.ref 6000 0 l381.length, .ref 6001 0 l382.length])), (53, some (.mp .string (encM MKey.sk (vI .i64) m383))), (183, some (.arr 32 1 (l384.map (cM .string false MKey.sk (cI .i64))))), (6000, some (.arr 30 2 (l381.map cS30))), (6001, some (.arr 22 1 (l382.map (cL cS30))))]) Sub.tt ?_
           replace h := bsome h; obtain ⟨r610, hr610, h⟩ := h
           refine Chain.callL (d := 127) (p7 N x608 1 r610 hr610) (by simp) rfl rfl (by simp <;> rfl) (by simp <;> rfl) ent7 (by simp <;> rfl) ?_
           refine Chain.sub (S' := mk 234 [] [(2, .d (.sl (a2.map cS))), (9, .ptr 50 0 0), (11, .mref 53), (14, .ref 183 0 l384.length), (16, .d (.sl (x608.map (cI .i64)))), (119, .d (.sl (a1.map (cL (cI .i64))))), (120, .d (.lit (.int .i64 (a1.length : Int)))), (121, .d (.lit (.int .i64 v385))), (125, .d (.sl (a2.map cS))), (126, .d (.sl (x608.map (cI .i64)))), (127, .d (.lit (.int .i64 r610)))] [(50, some (.box [.ref 6000 0 l381.length, .ref 6001 0 l382.length])), (53, some (.mp .string (encM MKey.sk (vI .i64) m383))), (183, some (.arr 32 1 (l384.map (cM .string false MKey.sk (cI .i64))))), (6000, some (.arr 30 2 (l381.map cS30))), (6001, some (.arr 22 1 (l382.map (cL cS30))))]) (by simp; exact Sub.table (by simp) (by simp)) ?_
           replace h := bsome h; obtain ⟨r611, hr611, h⟩ := h
           refine Chain.callL (d := 128) (p6 N a2 r610 r611 hr611) (by simp) rfl rfl (by simp <;> rfl) (by simp <;> rfl) ent6 (by simp <;> rfl) ?_
           refine Chain.sub (S' := mk 234 [] [(2, .d (.sl (a2.map cS))), (9, .ptr 50 0 0), (11, .mref 53), (14, .ref 183 0 l384.length), (16, .d (.sl (x608.map (cI .i64)))), (119, .d (.sl (a1.map (cL (cI .i64))))), (120, .d (.lit (.int .i64 (a1.length : Int)))), (121, .d (.lit (.int .i64 v385))), (125, .d (.sl (a2.map cS))), (126, .d (.sl (x608.map (cI .i64)))), (127, .d (.lit (.int .i64 r610))), (128, .d (.lit (.string r611)))] [(50, some (.box [.ref 6000 0 l381.length, .ref 6001 0 l382.length])), (53, some (.mp .string (encM MKey.sk (vI .i64) m383))), (183, some (.arr 32 1 (l384.map (cM .string false MKey.sk (cI .i64))))), (6000, some (.arr 30 2 (l381.map cS30))), (6001, some (.arr 22 1 (l382.map (cL cS30))))]) (by simp; exact Sub.table (by simp) (by simp)) ?_
           refine Chain.runK [] 1 fun K hK => ?_; simp; refine hK _ _ ?_; clear hK K
           refine Chain.sub (S' := mk 234 [] [(2, .d (.sl (a2.map cS))), (9, .ptr 50 0 0), (11, .mref 53), (14, .ref 183 0 l384.length), (16, .d (.sl (x608.map (cI .i64)))), (119, .d (.sl (a1.map (cL (cI .i64))))), (120, .d (.lit (.int .i64 (a1.length : Int)))), (121, .d (.lit (.int .i64 v385))), (128, .d (.lit (.string r611))), (129, .d (.sl (x608.map (cI .i64))))] [(50, some (.box [.ref 6000 0 l381.length, .ref 6001 0 l382.length])), (53, some (.mp .string (encM MKey.sk (vI .i64) m383))), (183, some (.arr 32 1 (l384.map (cM .string false MKey.sk (cI .i64))))), (6000, some (.arr 30 2 (l381.map cS30))), (6001, some (.arr 22 1 (l382.map (cL cS30))))]) Sub.tt ?_
           replace h := bsome h; obtain ⟨r612, hr612, h⟩ := h
           refine Chain.callL (d := 130) (p7 N x608 2 r612 hr612) (by simp) rfl rfl (by simp <;> rfl) (by simp <;> rfl) ent7 (by simp <;> rfl) ?_
           refine Chain.sub (S' := mk 234 [] [(2, .d (.sl (a2.map cS))), (9, .ptr 50 0 0), (11, .mref 53), (14, .ref 183 0 l384.length), (16, .d (.sl (x608.map (cI .i64)))), (119, .d (.sl (a1.map (cL (cI .i64))))), (120, .d (.lit (.int .i64 (a1.length : Int)))), (121, .d (.lit (.int .i64 v385))), (128, .d (.lit (.string r611))), (129, .d (.sl (x608.map (cI .i64)))), (130, .d (.lit (.int .i64 r612)))] [(50, some (.box [.ref 6000 0 l381.length, .ref 6001 0 l382.length])), (53, some (.mp .string (encM MKey.sk (vI .i64) m383))), (183, some (.arr 32 1 (l384.map (cM .string false MKey.sk (cI .i64))))), (6000, some (.arr 30 2 (l381.map cS30))), (6001, some (.arr 22 1 (l382.map (cL cS30))))]) (by simp; exact Sub.table (by simp) (by simp)) ?_
           refine Chain.runK [] 2 fun K hK => ?_; simp; refine hK _ _ ?_; clear hK K
           refine Chain.sub (S' := mk 234 [] [(2, .d (.sl (a2.map cS))), (9, .ptr 50 0 0), (11, .mref 53), (14, .ref 183 0 l384.length), (16, .d (.sl (x608.map (cI .i64)))), (17, .d (.lit (.string r611))), (18, .d (.lit (.int .i64 r612))), (119, .d (.sl (a1.map (cL (cI .i64))))), (120, .d (.lit (.int .i64 (a1.length : Int)))), (121, .d (.lit (.int .i64 v385)))] [(50, some (.box [.ref 6000 0 l381.length, .ref 6001 0 l382.length])), (53, some (.mp .string (encM MKey.sk (vI .i64) m383))), (183, some (.arr 32 1 (l384.map (cM .string false MKey.sk (cI .i64))))), (6000, some (.arr 30 2 (l381.map cS30))), (6001, some (.arr 22 1 (l382.map (cL cS30))))]) Sub.tt ?_
           refine Chain.nil ?_
           refine AW.seqR ?_
           refine Chain.runK [] 2 fun K hK => ?_; simp; refine hK _ _ ?_; clear hK K
           refine Chain.sub (S' := mk 234 [] [(2, .d (.sl (a2.map cS))), (9, .ptr 50 0 0), (11, .mref 53), (14, .ref 183 0 l384.length), (16, .d (.sl (x608.map (cI .i64)))), (17, .d (.lit (.string r611))), (18, .d (.lit (.int .i64 r612))), (119, .d (.sl (a1.map (cL (cI .i64))))), (120, .d (.lit (.int .i64 (a1.length : Int)))), (121, .d (.lit (.int .i64 v385))), (132, .mref 53), (133, .d (.lit (.string r611)))] [(50, some (.box [.ref 6000 0 l381.length, .ref 6001 0 l382.length])), (53, some (.mp .string (encM MKey.sk (vI .i64) m383))), (183, some (.arr 32 1 (l384.map (cM .string false MKey.sk (cI .i64))))), (6000, some (.arr 30 2 (l381.map cS30))), (6001, some (.arr 22 1 (l382.map (cL cS30))))]) Sub.tt ?_
           replace h := lsome h; obtain ⟨v613, hv613, h⟩ := h
           refine Chain.lookE (vf := (vI .i64)) sk_inj m383 r611 0 (by simp) rfl ty32 rfl ty9 ty3 rfl rfl rfl rfl rfl rfl rfl ?_
           replace h := lsome h; obtain ⟨v614, hv614, h⟩ := h
           refine Chain.sub (S' := mk 234 [] [(2, .d (.sl (a2.map cS))), (9, .ptr 50 0 0), (11, .mref 53), (14, .ref 183 0 l384.length), (16, .d (.sl (x608.map (cI .i64)))), (17, .d (.lit (.string r611))), (18, .d (.lit (.int .i64 r612))), (119, .d (.sl (a1.map (cL (cI .i64))))), (120, .d (.lit (.int .i64 (a1.length : Int)))), (121, .d (.lit (.int .i64 v385))), (132, .mref 53), (133, .d (.lit (.string r611))), (134, .tup [.d (.lit (.int .i64 v613)), .d (.lit (.bool v614))])] [(50, some (.box [.ref 6000 0 l381.length, .ref 6001 0 l382.length])), (53, some (.mp .string (encM MKey.sk (vI .i64) m383))), (183, some (.arr 32 1 (l384.map (cM .string false MKey.sk (cI .i64))))), (6000, some (.arr 30 2 (l381.map cS30))), (6001, some (.arr 22 1 (l382.map (cL cS30))))]) (by simp [vI, hv613, hv614]; exact Sub.table (by simp) (by simp)) ?_
           refine Chain.runK [] 5 fun K hK => ?_; simp; refine hK _ _ ?_; clear hK K
           refine Chain.sub (S' := mk 234 [] [(2, .d (.sl (a2.map cS))), (9, .ptr 50 0 0), (11, .mref 53), (14, .ref 183 0 l384.length), (16, .d (.sl (x608.map (cI .i64)))), (17, .d (.lit (.string r611))), (18, .d (.lit (.int .i64 r612))), (20, .d (.lit (.bool v614))), (119, .d (.sl (a1.map (cL (cI .i64))))), (120, .d (.lit (.int .i64 (a1.length : Int)))), (121, .d (.lit (.int .i64 v385)))] [(50, some (.box [.ref 6000 0 l381.length, .ref 6001 0 l382.length])), (53, some (.mp .string (encM MKey.sk (vI .i64) m383))), (183, some (.arr 32 1 (l384.map (cM .string false MKey.sk (cI .i64))))), (6000, some (.arr 30 2 (l381.map cS30))), (6001, some (.arr 22 1 (l382.map (cL cS30))))]) Sub.tt ?_
           refine Chain.nil ?_
           refine AW.seqR ?_
           refine Chain.runK [] 2 fun K hK => ?_; simp; refine hK _ _ ?_; clear hK K
           refine Chain.sub (S' := mk 234 [] [(2, .d (.sl (a2.map cS))), (9, .ptr 50 0 0), (11, .mref 53), (14, .ref 183 0 l384.length), (16, .d (.sl (x608.map (cI .i64)))), (17, .d (.lit (.string r611))), (18, .d (.lit (.int .i64 r612))), (20, .d (.lit (.bool v614))), (21, .d (.lit (.int .i64 0))), (22, .d (.lit (.int .i64 0))), (119, .d (.sl (a1.map (cL (cI .i64))))), (120, .d (.lit (.int .i64 (a1.length : Int)))), (121, .d (.lit (.int .i64 v385)))] [(50, some (.box [.ref 6000 0 l381.length, .ref 6001 0 l382.length])), (53, some (.mp .string (encM MKey.sk (vI .i64) m383))), (183, some (.arr 32 1 (l384.map (cM .string false MKey.sk (cI .i64))))), (6000, some (.arr 30 2 (l381.map cS30))), (6001, some (.arr 22 1 (l382.map (cL cS30))))]) Sub.tt ?_
           refine Chain.nil ?_
           refine AW.seq ?_
           refine AW.seqR ?_
           refine Chain.runK [] 1 fun K hK => ?_; simp; refine hK _ _ ?_; clear hK K
           refine Chain.sub (S' := mk 234 [] [(2, .d (.sl (a2.map cS))), (9, .ptr 50 0 0), (11, .mref 53), (14, .ref 183 0 l384.length), (16, .d (.sl (x608.map (cI .i64)))), (17, .d (.lit (.string r611))), (18, .d (.lit (.int .i64 r612))), (20, .d (.lit (.bool v614))), (21, .d (.lit (.int .i64 0))), (22, .d (.lit (.int .i64 0))), (119, .d (.sl (a1.map (cL (cI .i64))))), (120, .d (.lit (.int .i64 (a1.length : Int)))), (121, .d (.lit (.int .i64 v385))), (137, .d (.sl (x608.map (cI .i64))))] [(50, some (.box [.ref 6000 0 l381.length, .ref 6001 0 l382.length])), (53, some (.mp .string (encM MKey.sk (vI .i64) m383))), (183, some (.arr 32 1 (l384.map (cM .string false MKey.sk (cI .i64))))), (6000, some (.arr 30 2 (l381.map cS30))), (6001, some (.arr 22 1 (l382.map (cL cS30))))]) Sub.tt ?_
           replace h := bsome h; obtain ⟨r615, hr615, h⟩ := h
           refine Chain.callL (d := 138) (p7 N x608 0 r615 hr615) (by simp) rfl rfl (by simp <;> rfl) (by simp <;> rfl) ent7 (by simp <;> rfl) ?_
           refine Chain.sub (S' := mk 234 [] [(2, .d (.sl (a2.map cS))), (9, .ptr 50 0 0), (11, .mref 53), (14, .ref 183 0 l384.length), (16, .d (.sl (x608.map (cI .i64)))), (17, .d (.lit (.string r611))), (18, .d (.lit (.int .i64 r612))), (20, .d (.lit (.bool v614))), (21, .d (.lit (.int .i64 0))), (22, .d (.lit (.int .i64 0))), (119, .d (.sl (a1.map (cL (cI .i64))))), (120, .d (.lit (.int .i64 (a1.length : Int)))), (121, .d (.lit (.int .i64 v385))), (137, .d (.sl (x608.map (cI .i64)))), (138, .d (.lit (.int .i64 r615)))] [(50, some (.box [.ref 6000 0 l381.length, .ref 6001 0 l382.length])), (53, some (.mp .string (encM MKey.sk (vI .i64) m383))), (183, some (.arr 32 1 (l384.map (cM .string false MKey.sk (cI .i64))))), (6000, some (.arr 30 2 (l381.map cS30))), (6001, some (.arr 22 1 (l382.map (cL cS30))))]) (by simp; exact Sub.table (by simp) (by simp)) ?_
           refine Chain.nil ?_
           refine AW.block ?_
           refine AW.seqR ?_
           refine Chain.runK [] 2 fun K hK => ?_; simp; refine hK _ _ ?_; clear hK K
           refine Chain.sub (S' := mk 234 [] [(2, .d (.sl (a2.map cS))), (9, .ptr 50 0 0), (11, .mref 53), (14, .ref 183 0 l384.length), (16, .d (.sl (x608.map (cI .i64)))), (17, .d (.lit (.string r611))), (18, .d (.lit (.int .i64 r612))), (20, .d (.lit (.bool v614))), (21, .d (.lit (.int .i64 0))), (22, .d (.lit (.int .i64 0))), (119, .d (.sl (a1.map (cL (cI .i64))))), (120, .d (.lit (.int .i64 (a1.length : Int)))), (121, .d (.lit (.int .i64 v385))), (138, .d (.lit (.int .i64 r615))), (139, .d (.lit (.bool (r615 == 1))))] [(50, some (.box [.ref 6000 0 l381.length, .ref 6001 0 l382.length])), (53, some (.mp .string (encM MKey.sk (vI .i64) m383))), (183, some (.arr 32 1 (l384.map (cM .string false MKey.sk (cI .i64))))), (6000, some (.arr 30 2 (l381.map cS30))), (6001, some (.arr 22 1 (l382.map (cL cS30))))]) Sub.tt ?_
           refine Chain.nil ?_
           refine AW.lastJ (fun ((l659, l660, m661, l662, v663, v664) : ((List S30) × (List (List S30)) × (List (ByteArray × Int)) × (List (List (ByteArray × Int))) × Int × Int)) => mk 234 [] [(2, .d (.sl (a2.map cS))), (9, .ptr 50 0 0), (11, .mref 53), (14, .ref 183 0 l662.length), (17, .d (.lit (.string r611))), (21, .d (.lit (.int .i64 v663))), (22, .d (.lit (.int .i64 v664))), (119, .d (.sl (a1.map (cL (cI .i64))))), (120, .d (.lit (.int .i64 (a1.length : Int)))), (121, .d (.lit (.int .i64 v385)))] [(50, some (.box [.ref 6000 0 l659.length, .ref 6001 0 l660.length])), (53, some (.mp .string (encM MKey.sk (vI .i64) m661))), (183, some (.arr 32 1 (l662.map (cM .string false MKey.sk (cI .i64))))), (6000, some (.arr 30 2 (l659.map cS30))), (6001, some (.arr 22 1 (l660.map (cL cS30))))]) h ?_ ?_ <;> clear h
           ·intro o h
            replace h := isome h; rcases h with ⟨c665, h⟩ | ⟨c665, h⟩
            ·have c665_ : (r615 == 1) = true := c665
             refine AW.condT (b := (r615 == 1)) rfl c665_ ?_
             refine AW.sub (Sub.bool 139 (b := (r615 == 1)) rfl c665_) ?_
             refine AW.sub (S' := mk 234 [] [(2, .d (.sl (a2.map cS))), (9, .ptr 50 0 0), (11, .mref 53), (14, .ref 183 0 l384.length), (16, .d (.sl (x608.map (cI .i64)))), (17, .d (.lit (.string r611))), (18, .d (.lit (.int .i64 r612))), (20, .d (.lit (.bool v614))), (21, .d (.lit (.int .i64 0))), (22, .d (.lit (.int .i64 0))), (119, .d (.sl (a1.map (cL (cI .i64))))), (120, .d (.lit (.int .i64 (a1.length : Int)))), (121, .d (.lit (.int .i64 v385))), (138, .d (.lit (.int .i64 r615))), (139, .d (.lit (.bool true)))] [(50, some (.box [.ref 6000 0 l381.length, .ref 6001 0 l382.length])), (53, some (.mp .string (encM MKey.sk (vI .i64) m383))), (183, some (.arr 32 1 (l384.map (cM .string false MKey.sk (cI .i64))))), (6000, some (.arr 30 2 (l381.map cS30))), (6001, some (.arr 22 1 (l382.map (cL cS30))))]) (by simp; exact Sub.table (by simp) (by simp)) ?_
             refine AW.seqR ?_
             refine Chain.runK [] 3 fun K hK => ?_; simp; refine hK _ _ ?_; clear hK K
             refine Chain.sub (S' := mk 234 [] [(2, .d (.sl (a2.map cS))), (9, .ptr 50 0 0), (11, .mref 53), (14, .ref 183 0 l384.length), (17, .d (.lit (.string r611))), (18, .d (.lit (.int .i64 r612))), (20, .d (.lit (.bool v614))), (22, .d (.lit (.int .i64 0))), (119, .d (.sl (a1.map (cL (cI .i64))))), (120, .d (.lit (.int .i64 (a1.length : Int)))), (121, .d (.lit (.int .i64 v385))), (141, .ptr 50 0 0), (142, .d (.lit (.string r611))), (143, .d (.lit (.int .i64 r612)))] [(50, some (.box [.ref 6000 0 l381.length, .ref 6001 0 l382.length])), (53, some (.mp .string (encM MKey.sk (vI .i64) m383))), (183, some (.arr 32 1 (l384.map (cM .string false MKey.sk (cI .i64))))), (6000, some (.arr 30 2 (l381.map cS30))), (6001, some (.arr 22 1 (l382.map (cL cS30))))]) Sub.tt ?_
             replace h := bsome h; obtain ⟨r666, hr666, h⟩ := h
             refine Chain.callF (p8 N (S47.mk l381 l382) r611 r612 r666 hr666) [(50, 1000), (6000, 25000), (6001, 25001)] [50] [(1000, 50), (25000, 6000), (25001, 6001)] [(50, (.box [.ref 6000 0 r666.1.entries.length, .ref 6001 0 r666.1.savepoints.length])), (6000, (.arr 30 2 (r666.1.entries.map cS30))), (6001, (.arr 22 1 (r666.1.savepoints.map (cL cS30))))] (.d (.lit (.int .i64 r666.2))) (by simp) rfl (by simp <;> rfl) (by simp) (by simp) (by simp) (by simp) (by simp) ent8 (by simp) (by simp) (by simp) (by simp) (by simp) (by simp) ?_
             refine Chain.sub (S' := mk 234 [] [(2, .d (.sl (a2.map cS))), (9, .ptr 50 0 0), (11, .mref 53), (14, .ref 183 0 l384.length), (17, .d (.lit (.string r611))), (18, .d (.lit (.int .i64 r612))), (20, .d (.lit (.bool v614))), (22, .d (.lit (.int .i64 0))), (119, .d (.sl (a1.map (cL (cI .i64))))), (120, .d (.lit (.int .i64 (a1.length : Int)))), (121, .d (.lit (.int .i64 v385))), (141, .ptr 50 0 0), (142, .d (.lit (.string r611))), (143, .d (.lit (.int .i64 r612))), (144, .d (.lit (.int .i64 r666.2)))] [(50, some (.box [.ref 6000 0 r666.1.entries.length, .ref 6001 0 r666.1.savepoints.length])), (53, some (.mp .string (encM MKey.sk (vI .i64) m383))), (183, some (.arr 32 1 (l384.map (cM .string false MKey.sk (cI .i64))))), (6000, some (.arr 30 2 (r666.1.entries.map cS30))), (6001, some (.arr 22 1 (r666.1.savepoints.map (cL cS30))))]) (by simp; exact Sub.table (by simp) (by simp)) ?_
             refine Chain.runK [] 1 fun K hK => ?_; simp; refine hK _ _ ?_; clear hK K
             refine Chain.sub (S' := mk 234 [] [(2, .d (.sl (a2.map cS))), (9, .ptr 50 0 0), (11, .mref 53), (14, .ref 183 0 l384.length), (17, .d (.lit (.string r611))), (18, .d (.lit (.int .i64 r612))), (20, .d (.lit (.bool v614))), (21, .d (.lit (.int .i64 r666.2))), (22, .d (.lit (.int .i64 0))), (119, .d (.sl (a1.map (cL (cI .i64))))), (120, .d (.lit (.int .i64 (a1.length : Int)))), (121, .d (.lit (.int .i64 v385)))] [(50, some (.box [.ref 6000 0 r666.1.entries.length, .ref 6001 0 r666.1.savepoints.length])), (53, some (.mp .string (encM MKey.sk (vI .i64) m383))), (183, some (.arr 32 1 (l384.map (cM .string false MKey.sk (cI .i64))))), (6000, some (.arr 30 2 (r666.1.entries.map cS30))), (6001, some (.arr 22 1 (r666.1.savepoints.map (cL cS30))))]) Sub.tt ?_
             refine Chain.nil ?_
             refine AW.block ?_
             refine AW.seqR ?_
             refine Chain.runK [] 4 fun K hK => ?_; simp; refine hK _ _ ?_; clear hK K
             refine Chain.sub (S' := mk 234 [] [(2, .d (.sl (a2.map cS))), (9, .ptr 50 0 0), (11, .mref 53), (14, .ref 183 0 l384.length), (17, .d (.lit (.string r611))), (18, .d (.lit (.int .i64 r612))), (20, .d (.lit (.bool v614))), (21, .d (.lit (.int .i64 r666.2))), (22, .d (.lit (.int .i64 0))), (119, .d (.sl (a1.map (cL (cI .i64))))), (120, .d (.lit (.int .i64 (a1.length : Int)))), (121, .d (.lit (.int .i64 v385))), (148, .d (.lit (.bool (decide ((r611.size : Int) > 24)))))] [(50, some (.box [.ref 6000 0 r666.1.entries.length, .ref 6001 0 r666.1.savepoints.length])), (53, some (.mp .string (encM MKey.sk (vI .i64) m383))), (183, some (.arr 32 1 (l384.map (cM .string false MKey.sk (cI .i64))))), (6000, some (.arr 30 2 (r666.1.entries.map cS30))), (6001, some (.arr 22 1 (r666.1.savepoints.map (cL cS30))))]) Sub.tt ?_
             refine Chain.nil ?_
             replace h := isome h; rcases h with ⟨c667, h⟩ | ⟨c667, h⟩
             ·have c667_ : decide ((r611.size : Int) > 24) = true := decide_eq_true c667
              refine AW.condT (b := decide ((r611.size : Int) > 24)) rfl c667_ ?_
              refine AW.sub (Sub.bool 148 (b := decide ((r611.size : Int) > 24)) rfl c667_) ?_
              refine AW.sub (S' := mk 234 [] [(2, .d (.sl (a2.map cS))), (9, .ptr 50 0 0), (11, .mref 53), (14, .ref 183 0 l384.length), (17, .d (.lit (.string r611))), (18, .d (.lit (.int .i64 r612))), (20, .d (.lit (.bool v614))), (21, .d (.lit (.int .i64 r666.2))), (22, .d (.lit (.int .i64 0))), (119, .d (.sl (a1.map (cL (cI .i64))))), (120, .d (.lit (.int .i64 (a1.length : Int)))), (121, .d (.lit (.int .i64 v385))), (148, .d (.lit (.bool true)))] [(50, some (.box [.ref 6000 0 r666.1.entries.length, .ref 6001 0 r666.1.savepoints.length])), (53, some (.mp .string (encM MKey.sk (vI .i64) m383))), (183, some (.arr 32 1 (l384.map (cM .string false MKey.sk (cI .i64))))), (6000, some (.arr 30 2 (r666.1.entries.map cS30))), (6001, some (.arr 22 1 (r666.1.savepoints.map (cL cS30))))]) (by simp; exact Sub.table (by simp) (by simp)) ?_
              refine AW.region ?_
              refine Chain.runK [] 1 fun K hK => ?_; simp; refine hK _ _ ?_; clear hK K
              refine Chain.sub (S' := mk 234 [] [(2, .d (.sl (a2.map cS))), (9, .ptr 50 0 0), (11, .mref 53), (14, .ref 183 0 l384.length), (17, .d (.lit (.string r611))), (21, .d (.lit (.int .i64 r666.2))), (22, .d (.lit (.int .i64 2))), (119, .d (.sl (a1.map (cL (cI .i64))))), (120, .d (.lit (.int .i64 (a1.length : Int)))), (121, .d (.lit (.int .i64 v385)))] [(50, some (.box [.ref 6000 0 r666.1.entries.length, .ref 6001 0 r666.1.savepoints.length])), (53, some (.mp .string (encM MKey.sk (vI .i64) m383))), (183, some (.arr 32 1 (l384.map (cM .string false MKey.sk (cI .i64))))), (6000, some (.arr 30 2 (r666.1.entries.map cS30))), (6001, some (.arr 22 1 (r666.1.savepoints.map (cL cS30))))]) Sub.tt ?_
              refine Chain.nil ?_
              cases h
              refine blockQ.normal ?_
              refine PostJ.next ?_
              exact Sub.tt
             ·have c667_ : decide ((r611.size : Int) > 24) = false := decide_eq_false c667
              refine AW.condF (b := decide ((r611.size : Int) > 24)) rfl c667_ ?_
              refine AW.sub (Sub.bool 148 (b := decide ((r611.size : Int) > 24)) rfl c667_) ?_
              refine AW.sub (S' := mk 234 [] [(2, .d (.sl (a2.map cS))), (9, .ptr 50 0 0), (11, .mref 53), (14, .ref 183 0 l384.length), (17, .d (.lit (.string r611))), (18, .d (.lit (.int .i64 r612))), (20, .d (.lit (.bool v614))), (21, .d (.lit (.int .i64 r666.2))), (22, .d (.lit (.int .i64 0))), (119, .d (.sl (a1.map (cL (cI .i64))))), (120, .d (.lit (.int .i64 (a1.length : Int)))), (121, .d (.lit (.int .i64 v385))), (148, .d (.lit (.bool false)))] [(50, some (.box [.ref 6000 0 r666.1.entries.length, .ref 6001 0 r666.1.savepoints.length])), (53, some (.mp .string (encM MKey.sk (vI .i64) m383))), (183, some (.arr 32 1 (l384.map (cM .string false MKey.sk (cI .i64))))), (6000, some (.arr 30 2 (r666.1.entries.map cS30))), (6001, some (.arr 22 1 (r666.1.savepoints.map (cL cS30))))]) (by simp; exact Sub.table (by simp) (by simp)) ?_
              replace h := bsome h; obtain ⟨v669, hj, h⟩ := h
              refine AW.cutR (mk 234 [] [(2, .d (.sl (a2.map cS))), (9, .ptr 50 0 0), (11, .mref 53), (14, .ref 183 0 l384.length), (17, .d (.lit (.string r611))), (18, .d (.lit (.int .i64 r612))), (21, .d (.lit (.int .i64 r666.2))), (22, .d (.lit (.int .i64 0))), (119, .d (.sl (a1.map (cL (cI .i64))))), (120, .d (.lit (.int .i64 (a1.length : Int)))), (121, .d (.lit (.int .i64 v385))), (152, .d (.lit (.bool v669)))] [(50, some (.box [.ref 6000 0 r666.1.entries.length, .ref 6001 0 r666.1.savepoints.length])), (53, some (.mp .string (encM MKey.sk (vI .i64) m383))), (183, some (.arr 32 1 (l384.map (cM .string false MKey.sk (cI .i64))))), (6000, some (.arr 30 2 (r666.1.entries.map cS30))), (6001, some (.arr 22 1 (r666.1.savepoints.map (cL cS30))))]) ?_ ?_
              ·clear h; have h := hj; clear hj
               refine Chain.runK [] 3 fun K hK => ?_; simp; refine hK _ _ ?_; clear hK K
               refine Chain.sub (S' := mk 234 [] [(2, .d (.sl (a2.map cS))), (9, .ptr 50 0 0), (11, .mref 53), (14, .ref 183 0 l384.length), (17, .d (.lit (.string r611))), (18, .d (.lit (.int .i64 r612))), (21, .d (.lit (.int .i64 r666.2))), (22, .d (.lit (.int .i64 0))), (119, .d (.sl (a1.map (cL (cI .i64))))), (120, .d (.lit (.int .i64 (a1.length : Int)))), (121, .d (.lit (.int .i64 v385))), (155, .d (.lit (.bool (!v614))))] [(50, some (.box [.ref 6000 0 r666.1.entries.length, .ref 6001 0 r666.1.savepoints.length])), (53, some (.mp .string (encM MKey.sk (vI .i64) m383))), (183, some (.arr 32 1 (l384.map (cM .string false MKey.sk (cI .i64))))), (6000, some (.arr 30 2 (r666.1.entries.map cS30))), (6001, some (.arr 22 1 (r666.1.savepoints.map (cL cS30))))]) Sub.tt ?_
               replace h := isome h; rcases h with ⟨c670, h⟩ | ⟨c670, h⟩
               ·have c670_ : (!v614) = true := c670
                refine Chain.sub (Sub.bool 155 (b := (!v614)) rfl c670_) ?_
                refine Chain.sub (S' := mk 234 [] [(2, .d (.sl (a2.map cS))), (9, .ptr 50 0 0), (11, .mref 53), (14, .ref 183 0 l384.length), (17, .d (.lit (.string r611))), (18, .d (.lit (.int .i64 r612))), (21, .d (.lit (.int .i64 r666.2))), (22, .d (.lit (.int .i64 0))), (119, .d (.sl (a1.map (cL (cI .i64))))), (120, .d (.lit (.int .i64 (a1.length : Int)))), (121, .d (.lit (.int .i64 v385))), (155, .d (.lit (.bool true)))] [(50, some (.box [.ref 6000 0 r666.1.entries.length, .ref 6001 0 r666.1.savepoints.length])), (53, some (.mp .string (encM MKey.sk (vI .i64) m383))), (183, some (.arr 32 1 (l384.map (cM .string false MKey.sk (cI .i64))))), (6000, some (.arr 30 2 (r666.1.entries.map cS30))), (6001, some (.arr 22 1 (r666.1.savepoints.map (cL cS30))))]) (by simp; exact Sub.table (by simp) (by simp)) ?_
                refine Chain.runK [] 1 fun K hK => ?_; simp; refine hK _ _ ?_; clear hK K
                refine Chain.sub (S' := mk 234 [] [(2, .d (.sl (a2.map cS))), (9, .ptr 50 0 0), (11, .mref 53), (14, .ref 183 0 l384.length), (17, .d (.lit (.string r611))), (18, .d (.lit (.int .i64 r612))), (21, .d (.lit (.int .i64 r666.2))), (22, .d (.lit (.int .i64 0))), (119, .d (.sl (a1.map (cL (cI .i64))))), (120, .d (.lit (.int .i64 (a1.length : Int)))), (121, .d (.lit (.int .i64 v385))), (155, .d (.lit (.bool true))), (156, .mref 53)] [(50, some (.box [.ref 6000 0 r666.1.entries.length, .ref 6001 0 r666.1.savepoints.length])), (53, some (.mp .string (encM MKey.sk (vI .i64) m383))), (183, some (.arr 32 1 (l384.map (cM .string false MKey.sk (cI .i64))))), (6000, some (.arr 30 2 (r666.1.entries.map cS30))), (6001, some (.arr 22 1 (r666.1.savepoints.map (cL cS30))))]) Sub.tt ?_
                refine Chain.pureP (by simp) (pure_lenM (id := 53) rfl rfl rfl ty32 rfl (by simp) rfl) ?_
                refine Chain.sub (S' := mk 234 [] [(2, .d (.sl (a2.map cS))), (9, .ptr 50 0 0), (11, .mref 53), (14, .ref 183 0 l384.length), (17, .d (.lit (.string r611))), (18, .d (.lit (.int .i64 r612))), (21, .d (.lit (.int .i64 r666.2))), (22, .d (.lit (.int .i64 0))), (119, .d (.sl (a1.map (cL (cI .i64))))), (120, .d (.lit (.int .i64 (a1.length : Int)))), (121, .d (.lit (.int .i64 v385))), (155, .d (.lit (.bool true))), (156, .mref 53), (157, .d (.lit (.int .i64 (m383.length : Int))))] [(50, some (.box [.ref 6000 0 r666.1.entries.length, .ref 6001 0 r666.1.savepoints.length])), (53, some (.mp .string (encM MKey.sk (vI .i64) m383))), (183, some (.arr 32 1 (l384.map (cM .string false MKey.sk (cI .i64))))), (6000, some (.arr 30 2 (r666.1.entries.map cS30))), (6001, some (.arr 22 1 (r666.1.savepoints.map (cL cS30))))]) (by simp; exact Sub.table (by simp) (by simp)) ?_
                refine Chain.runK [] 3 fun K hK => ?_; simp; refine hK _ _ ?_; clear hK K
                refine Chain.sub (S' := mk 234 [] [(2, .d (.sl (a2.map cS))), (9, .ptr 50 0 0), (11, .mref 53), (14, .ref 183 0 l384.length), (17, .d (.lit (.string r611))), (18, .d (.lit (.int .i64 r612))), (21, .d (.lit (.int .i64 r666.2))), (22, .d (.lit (.int .i64 0))), (119, .d (.sl (a1.map (cL (cI .i64))))), (120, .d (.lit (.int .i64 (a1.length : Int)))), (121, .d (.lit (.int .i64 v385))), (152, .d (.lit (.bool ((m383.length : Int) == 40)))), (156, .mref 53), (157, .d (.lit (.int .i64 (m383.length : Int)))), (158, .d (.lit (.bool ((m383.length : Int) == 40))))] [(50, some (.box [.ref 6000 0 r666.1.entries.length, .ref 6001 0 r666.1.savepoints.length])), (53, some (.mp .string (encM MKey.sk (vI .i64) m383))), (183, some (.arr 32 1 (l384.map (cM .string false MKey.sk (cI .i64))))), (6000, some (.arr 30 2 (r666.1.entries.map cS30))), (6001, some (.arr 22 1 (r666.1.savepoints.map (cL cS30))))]) Sub.tt ?_
                cases h
                exact Chain.nil Sub.tt
               ·have c670_ : (!v614) = false := Bool.eq_false_iff.2 c670
                refine Chain.sub (Sub.bool 155 (b := (!v614)) rfl c670_) ?_
                refine Chain.sub (S' := mk 234 [] [(2, .d (.sl (a2.map cS))), (9, .ptr 50 0 0), (11, .mref 53), (14, .ref 183 0 l384.length), (17, .d (.lit (.string r611))), (18, .d (.lit (.int .i64 r612))), (21, .d (.lit (.int .i64 r666.2))), (22, .d (.lit (.int .i64 0))), (119, .d (.sl (a1.map (cL (cI .i64))))), (120, .d (.lit (.int .i64 (a1.length : Int)))), (121, .d (.lit (.int .i64 v385))), (155, .d (.lit (.bool false)))] [(50, some (.box [.ref 6000 0 r666.1.entries.length, .ref 6001 0 r666.1.savepoints.length])), (53, some (.mp .string (encM MKey.sk (vI .i64) m383))), (183, some (.arr 32 1 (l384.map (cM .string false MKey.sk (cI .i64))))), (6000, some (.arr 30 2 (r666.1.entries.map cS30))), (6001, some (.arr 22 1 (r666.1.savepoints.map (cL cS30))))]) (by simp; exact Sub.table (by simp) (by simp)) ?_
                refine Chain.runK [] 5 fun K hK => ?_; simp; refine hK _ _ ?_; clear hK K
                refine Chain.sub (S' := mk 234 [] [(2, .d (.sl (a2.map cS))), (9, .ptr 50 0 0), (11, .mref 53), (14, .ref 183 0 l384.length), (17, .d (.lit (.string r611))), (18, .d (.lit (.int .i64 r612))), (21, .d (.lit (.int .i64 r666.2))), (22, .d (.lit (.int .i64 0))), (119, .d (.sl (a1.map (cL (cI .i64))))), (120, .d (.lit (.int .i64 (a1.length : Int)))), (121, .d (.lit (.int .i64 v385))), (152, .d (.lit (.bool false))), (156, .tup []), (157, .tup []), (158, .tup [])] [(50, some (.box [.ref 6000 0 r666.1.entries.length, .ref 6001 0 r666.1.savepoints.length])), (53, some (.mp .string (encM MKey.sk (vI .i64) m383))), (183, some (.arr 32 1 (l384.map (cM .string false MKey.sk (cI .i64))))), (6000, some (.arr 30 2 (r666.1.entries.map cS30))), (6001, some (.arr 22 1 (r666.1.savepoints.map (cL cS30))))]) Sub.tt ?_
                cases h
                exact Chain.nil Sub.tt
              ·clear hj
               replace h := isome h; rcases h with ⟨c671, h⟩ | ⟨c671, h⟩
               ·have c671_ : v669 = true := c671
                refine AW.condT (b := v669) rfl c671_ ?_
                refine AW.sub (Sub.bool 152 (b := v669) rfl c671_) ?_
                refine AW.sub (S' := mk 234 [] [(2, .d (.sl (a2.map cS))), (9, .ptr 50 0 0), (11, .mref 53), (14, .ref 183 0 l384.length), (17, .d (.lit (.string r611))), (18, .d (.lit (.int .i64 r612))), (21, .d (.lit (.int .i64 r666.2))), (22, .d (.lit (.int .i64 0))), (119, .d (.sl (a1.map (cL (cI .i64))))), (120, .d (.lit (.int .i64 (a1.length : Int)))), (121, .d (.lit (.int .i64 v385))), (152, .d (.lit (.bool true)))] [(50, some (.box [.ref 6000 0 r666.1.entries.length, .ref 6001 0 r666.1.savepoints.length])), (53, some (.mp .string (encM MKey.sk (vI .i64) m383))), (183, some (.arr 32 1 (l384.map (cM .string false MKey.sk (cI .i64))))), (6000, some (.arr 30 2 (r666.1.entries.map cS30))), (6001, some (.arr 22 1 (r666.1.savepoints.map (cL cS30))))]) (by simp; exact Sub.table (by simp) (by simp)) ?_
                refine AW.region ?_
                refine Chain.runK [] 1 fun K hK => ?_; simp; refine hK _ _ ?_; clear hK K
                refine Chain.sub (S' := mk 234 [] [(2, .d (.sl (a2.map cS))), (9, .ptr 50 0 0), (11, .mref 53), (14, .ref 183 0 l384.length), (17, .d (.lit (.string r611))), (21, .d (.lit (.int .i64 r666.2))), (22, .d (.lit (.int .i64 18))), (119, .d (.sl (a1.map (cL (cI .i64))))), (120, .d (.lit (.int .i64 (a1.length : Int)))), (121, .d (.lit (.int .i64 v385)))] [(50, some (.box [.ref 6000 0 r666.1.entries.length, .ref 6001 0 r666.1.savepoints.length])), (53, some (.mp .string (encM MKey.sk (vI .i64) m383))), (183, some (.arr 32 1 (l384.map (cM .string false MKey.sk (cI .i64))))), (6000, some (.arr 30 2 (r666.1.entries.map cS30))), (6001, some (.arr 22 1 (r666.1.savepoints.map (cL cS30))))]) Sub.tt ?_
                refine Chain.nil ?_
                cases h
                refine blockQ.normal ?_
                refine PostJ.next ?_
                exact Sub.tt
               ·have c671_ : v669 = false := Bool.eq_false_iff.2 c671
                refine AW.condF (b := v669) rfl c671_ ?_
                refine AW.sub (Sub.bool 152 (b := v669) rfl c671_) ?_
                refine AW.sub (S' := mk 234 [] [(2, .d (.sl (a2.map cS))), (9, .ptr 50 0 0), (11, .mref 53), (14, .ref 183 0 l384.length), (17, .d (.lit (.string r611))), (18, .d (.lit (.int .i64 r612))), (21, .d (.lit (.int .i64 r666.2))), (22, .d (.lit (.int .i64 0))), (119, .d (.sl (a1.map (cL (cI .i64))))), (120, .d (.lit (.int .i64 (a1.length : Int)))), (121, .d (.lit (.int .i64 v385))), (152, .d (.lit (.bool false)))] [(50, some (.box [.ref 6000 0 r666.1.entries.length, .ref 6001 0 r666.1.savepoints.length])), (53, some (.mp .string (encM MKey.sk (vI .i64) m383))), (183, some (.arr 32 1 (l384.map (cM .string false MKey.sk (cI .i64))))), (6000, some (.arr 30 2 (r666.1.entries.map cS30))), (6001, some (.arr 22 1 (r666.1.savepoints.map (cL cS30))))]) (by simp; exact Sub.table (by simp) (by simp)) ?_
                refine AW.region ?_
                refine Chain.runK [] 3 fun K hK => ?_; simp; refine hK _ _ ?_; clear hK K
                refine Chain.sub (S' := mk 234 [] [(2, .d (.sl (a2.map cS))), (9, .ptr 50 0 0), (11, .mref 53), (14, .ref 183 0 l384.length), (17, .d (.lit (.string r611))), (21, .d (.lit (.int .i64 r666.2))), (22, .d (.lit (.int .i64 0))), (119, .d (.sl (a1.map (cL (cI .i64))))), (120, .d (.lit (.int .i64 (a1.length : Int)))), (121, .d (.lit (.int .i64 v385))), (145, .mref 53), (146, .d (.lit (.string r611))), (147, .d (.lit (.int .i64 r612)))] [(50, some (.box [.ref 6000 0 r666.1.entries.length, .ref 6001 0 r666.1.savepoints.length])), (53, some (.mp .string (encM MKey.sk (vI .i64) m383))), (183, some (.arr 32 1 (l384.map (cM .string false MKey.sk (cI .i64))))), (6000, some (.arr 30 2 (r666.1.entries.map cS30))), (6001, some (.arr 22 1 (r666.1.savepoints.map (cL cS30))))]) Sub.tt ?_
                refine Chain.msetE (vf := (vI .i64)) sk_inj m383 r611 r612 (by simp) (.inl rfl) ty32 rfl ty9 rfl rfl rfl rfl rfl rfl rfl ?_
                refine Chain.sub (S' := mk 234 [] [(2, .d (.sl (a2.map cS))), (9, .ptr 50 0 0), (11, .mref 53), (14, .ref 183 0 l384.length), (17, .d (.lit (.string r611))), (21, .d (.lit (.int .i64 r666.2))), (22, .d (.lit (.int .i64 0))), (119, .d (.sl (a1.map (cL (cI .i64))))), (120, .d (.lit (.int .i64 (a1.length : Int)))), (121, .d (.lit (.int .i64 v385))), (145, .mref 53), (146, .d (.lit (.string r611))), (147, .d (.lit (.int .i64 r612)))] [(50, some (.box [.ref 6000 0 r666.1.entries.length, .ref 6001 0 r666.1.savepoints.length])), (53, some (.mp .string (encM MKey.sk (vI .i64) (mput m383 r611 r612)))), (183, some (.arr 32 1 (l384.map (cM .string false MKey.sk (cI .i64))))), (6000, some (.arr 30 2 (r666.1.entries.map cS30))), (6001, some (.arr 22 1 (r666.1.savepoints.map (cL cS30))))]) (by simp; exact Sub.table (by simp) (by simp)) ?_
                refine Chain.nil ?_
                cases h
                refine blockQ.normal ?_
                refine PostJ.next ?_
                exact Sub.tt
            ·have c665_ : (r615 == 1) = false := Bool.eq_false_iff.2 c665
             refine AW.condF (b := (r615 == 1)) rfl c665_ ?_
             refine AW.sub (Sub.bool 139 (b := (r615 == 1)) rfl c665_) ?_
             refine AW.sub (S' := mk 234 [] [(2, .d (.sl (a2.map cS))), (9, .ptr 50 0 0), (11, .mref 53), (14, .ref 183 0 l384.length), (16, .d (.sl (x608.map (cI .i64)))), (17, .d (.lit (.string r611))), (18, .d (.lit (.int .i64 r612))), (20, .d (.lit (.bool v614))), (21, .d (.lit (.int .i64 0))), (22, .d (.lit (.int .i64 0))), (119, .d (.sl (a1.map (cL (cI .i64))))), (120, .d (.lit (.int .i64 (a1.length : Int)))), (121, .d (.lit (.int .i64 v385))), (138, .d (.lit (.int .i64 r615))), (139, .d (.lit (.bool false)))] [(50, some (.box [.ref 6000 0 l381.length, .ref 6001 0 l382.length])), (53, some (.mp .string (encM MKey.sk (vI .i64) m383))), (183, some (.arr 32 1 (l384.map (cM .string false MKey.sk (cI .i64))))), (6000, some (.arr 30 2 (l381.map cS30))), (6001, some (.arr 22 1 (l382.map (cL cS30))))]) (by simp; exact Sub.table (by simp) (by simp)) ?_
             refine AW.seqR ?_
             refine Chain.runK [] 2 fun K hK => ?_; simp; refine hK _ _ ?_; clear hK K
             refine Chain.sub (S' := mk 234 [] [(2, .d (.sl (a2.map cS))), (9, .ptr 50 0 0), (11, .mref 53), (14, .ref 183 0 l384.length), (16, .d (.sl (x608.map (cI .i64)))), (17, .d (.lit (.string r611))), (18, .d (.lit (.int .i64 r612))), (20, .d (.lit (.bool v614))), (21, .d (.lit (.int .i64 0))), (22, .d (.lit (.int .i64 0))), (119, .d (.sl (a1.map (cL (cI .i64))))), (120, .d (.lit (.int .i64 (a1.length : Int)))), (121, .d (.lit (.int .i64 v385))), (138, .d (.lit (.int .i64 r615))), (160, .d (.lit (.bool (r615 == 2))))] [(50, some (.box [.ref 6000 0 l381.length, .ref 6001 0 l382.length])), (53, some (.mp .string (encM MKey.sk (vI .i64) m383))), (183, some (.arr 32 1 (l384.map (cM .string false MKey.sk (cI .i64))))), (6000, some (.arr 30 2 (l381.map cS30))), (6001, some (.arr 22 1 (l382.map (cL cS30))))]) Sub.tt ?_
             refine Chain.nil ?_
             replace h := isome h; rcases h with ⟨c672, h⟩ | ⟨c672, h⟩
             ·have c672_ : (r615 == 2) = true := c672
              refine AW.condT (b := (r615 == 2)) rfl c672_ ?_
              refine AW.sub (Sub.bool 160 (b := (r615 == 2)) rfl c672_) ?_
              refine AW.sub (S' := mk 234 [] [(2, .d (.sl (a2.map cS))), (9, .ptr 50 0 0), (11, .mref 53), (14, .ref 183 0 l384.length), (16, .d (.sl (x608.map (cI .i64)))), (17, .d (.lit (.string r611))), (18, .d (.lit (.int .i64 r612))), (20, .d (.lit (.bool v614))), (21, .d (.lit (.int .i64 0))), (22, .d (.lit (.int .i64 0))), (119, .d (.sl (a1.map (cL (cI .i64))))), (120, .d (.lit (.int .i64 (a1.length : Int)))), (121, .d (.lit (.int .i64 v385))), (138, .d (.lit (.int .i64 r615))), (160, .d (.lit (.bool true)))] [(50, some (.box [.ref 6000 0 l381.length, .ref 6001 0 l382.length])), (53, some (.mp .string (encM MKey.sk (vI .i64) m383))), (183, some (.arr 32 1 (l384.map (cM .string false MKey.sk (cI .i64))))), (6000, some (.arr 30 2 (l381.map cS30))), (6001, some (.arr 22 1 (l382.map (cL cS30))))]) (by simp; exact Sub.table (by simp) (by simp)) ?_
              refine AW.seqR ?_
              refine Chain.runK [] 2 fun K hK => ?_; simp; refine hK _ _ ?_; clear hK K
              refine Chain.sub (S' := mk 234 [] [(2, .d (.sl (a2.map cS))), (9, .ptr 50 0 0), (11, .mref 53), (14, .ref 183 0 l384.length), (17, .d (.lit (.string r611))), (20, .d (.lit (.bool v614))), (119, .d (.sl (a1.map (cL (cI .i64))))), (120, .d (.lit (.int .i64 (a1.length : Int)))), (121, .d (.lit (.int .i64 v385))), (162, .ptr 50 0 0), (163, .d (.lit (.string r611)))] [(50, some (.box [.ref 6000 0 l381.length, .ref 6001 0 l382.length])), (53, some (.mp .string (encM MKey.sk (vI .i64) m383))), (183, some (.arr 32 1 (l384.map (cM .string false MKey.sk (cI .i64))))), (6000, some (.arr 30 2 (l381.map cS30))), (6001, some (.arr 22 1 (l382.map (cL cS30))))]) Sub.tt ?_
              replace h := bsome h; obtain ⟨r673, hr673, h⟩ := h
              refine Chain.callF (p5 N (S47.mk l381 l382) r611 r673 hr673) [(50, 1000), (6000, 25000), (6001, 25001)] [50] [(1000, 50), (25000, 6000), (25001, 6001)] [(50, (.box [.ref 6000 0 r673.1.entries.length, .ref 6001 0 r673.1.savepoints.length])), (6000, (.arr 30 2 (r673.1.entries.map cS30))), (6001, (.arr 22 1 (r673.1.savepoints.map (cL cS30))))] (.d (.lit (.int .i64 r673.2))) (by simp) rfl (by simp <;> rfl) (by simp) (by simp) (by simp) (by simp) (by simp) ent5 (by simp) (by simp) (by simp) (by simp) (by simp) (by simp) ?_
              refine Chain.sub (S' := mk 234 [] [(2, .d (.sl (a2.map cS))), (9, .ptr 50 0 0), (11, .mref 53), (14, .ref 183 0 l384.length), (17, .d (.lit (.string r611))), (20, .d (.lit (.bool v614))), (119, .d (.sl (a1.map (cL (cI .i64))))), (120, .d (.lit (.int .i64 (a1.length : Int)))), (121, .d (.lit (.int .i64 v385))), (162, .ptr 50 0 0), (163, .d (.lit (.string r611))), (164, .d (.lit (.int .i64 r673.2)))] [(50, some (.box [.ref 6000 0 r673.1.entries.length, .ref 6001 0 r673.1.savepoints.length])), (53, some (.mp .string (encM MKey.sk (vI .i64) m383))), (183, some (.arr 32 1 (l384.map (cM .string false MKey.sk (cI .i64))))), (6000, some (.arr 30 2 (r673.1.entries.map cS30))), (6001, some (.arr 22 1 (r673.1.savepoints.map (cL cS30))))]) (by simp; exact Sub.table (by simp) (by simp)) ?_
              refine Chain.runK [] 1 fun K hK => ?_; simp; refine hK _ _ ?_; clear hK K
              refine Chain.sub (S' := mk 234 [] [(2, .d (.sl (a2.map cS))), (9, .ptr 50 0 0), (11, .mref 53), (14, .ref 183 0 l384.length), (17, .d (.lit (.string r611))), (20, .d (.lit (.bool v614))), (21, .d (.lit (.int .i64 r673.2))), (119, .d (.sl (a1.map (cL (cI .i64))))), (120, .d (.lit (.int .i64 (a1.length : Int)))), (121, .d (.lit (.int .i64 v385)))] [(50, some (.box [.ref 6000 0 r673.1.entries.length, .ref 6001 0 r673.1.savepoints.length])), (53, some (.mp .string (encM MKey.sk (vI .i64) m383))), (183, some (.arr 32 1 (l384.map (cM .string false MKey.sk (cI .i64))))), (6000, some (.arr 30 2 (r673.1.entries.map cS30))), (6001, some (.arr 22 1 (r673.1.savepoints.map (cL cS30))))]) Sub.tt ?_
              refine Chain.nil ?_
              refine AW.seqR ?_
              refine Chain.runK [] 1 fun K hK => ?_; simp; refine hK _ _ ?_; clear hK K
              refine Chain.sub (S' := mk 234 [] [(2, .d (.sl (a2.map cS))), (9, .ptr 50 0 0), (11, .mref 53), (14, .ref 183 0 l384.length), (17, .d (.lit (.string r611))), (20, .d (.lit (.bool v614))), (21, .d (.lit (.int .i64 r673.2))), (22, .d (.lit (.int .i64 4))), (119, .d (.sl (a1.map (cL (cI .i64))))), (120, .d (.lit (.int .i64 (a1.length : Int)))), (121, .d (.lit (.int .i64 v385)))] [(50, some (.box [.ref 6000 0 r673.1.entries.length, .ref 6001 0 r673.1.savepoints.length])), (53, some (.mp .string (encM MKey.sk (vI .i64) m383))), (183, some (.arr 32 1 (l384.map (cM .string false MKey.sk (cI .i64))))), (6000, some (.arr 30 2 (r673.1.entries.map cS30))), (6001, some (.arr 22 1 (r673.1.savepoints.map (cL cS30))))]) Sub.tt ?_
              refine Chain.nil ?_
              refine AW.seqR ?_
              refine Chain.runK [] 1 fun K hK => ?_; simp; refine hK _ _ ?_; clear hK K
              refine Chain.sub (S' := mk 234 [] [(2, .d (.sl (a2.map cS))), (9, .ptr 50 0 0), (11, .mref 53), (14, .ref 183 0 l384.length), (17, .d (.lit (.string r611))), (21, .d (.lit (.int .i64 r673.2))), (22, .d (.lit (.int .i64 4))), (119, .d (.sl (a1.map (cL (cI .i64))))), (120, .d (.lit (.int .i64 (a1.length : Int)))), (121, .d (.lit (.int .i64 v385))), (165, .d (.lit (.bool v614)))] [(50, some (.box [.ref 6000 0 r673.1.entries.length, .ref 6001 0 r673.1.savepoints.length])), (53, some (.mp .string (encM MKey.sk (vI .i64) m383))), (183, some (.arr 32 1 (l384.map (cM .string false MKey.sk (cI .i64))))), (6000, some (.arr 30 2 (r673.1.entries.map cS30))), (6001, some (.arr 22 1 (r673.1.savepoints.map (cL cS30))))]) Sub.tt ?_
              refine Chain.nil ?_
              replace h := isome h; rcases h with ⟨c674, h⟩ | ⟨c674, h⟩
              ·have c674_ : v614 = true := c674
               refine AW.condT (b := v614) rfl c674_ ?_
               refine AW.sub (Sub.bool 165 (b := v614) rfl c674_) ?_
               refine AW.sub (S' := mk 234 [] [(2, .d (.sl (a2.map cS))), (9, .ptr 50 0 0), (11, .mref 53), (14, .ref 183 0 l384.length), (17, .d (.lit (.string r611))), (21, .d (.lit (.int .i64 r673.2))), (22, .d (.lit (.int .i64 4))), (119, .d (.sl (a1.map (cL (cI .i64))))), (120, .d (.lit (.int .i64 (a1.length : Int)))), (121, .d (.lit (.int .i64 v385))), (165, .d (.lit (.bool true)))] [(50, some (.box [.ref 6000 0 r673.1.entries.length, .ref 6001 0 r673.1.savepoints.length])), (53, some (.mp .string (encM MKey.sk (vI .i64) m383))), (183, some (.arr 32 1 (l384.map (cM .string false MKey.sk (cI .i64))))), (6000, some (.arr 30 2 (r673.1.entries.map cS30))), (6001, some (.arr 22 1 (r673.1.savepoints.map (cL cS30))))]) (by simp; exact Sub.table (by simp) (by simp)) ?_
               refine AW.seqR ?_
               refine Chain.runK [] 1 fun K hK => ?_; simp; refine hK _ _ ?_; clear hK K
               refine Chain.sub (S' := mk 234 [] [(2, .d (.sl (a2.map cS))), (9, .ptr 50 0 0), (11, .mref 53), (14, .ref 183 0 l384.length), (17, .d (.lit (.string r611))), (21, .d (.lit (.int .i64 r673.2))), (22, .d (.lit (.int .i64 0))), (119, .d (.sl (a1.map (cL (cI .i64))))), (120, .d (.lit (.int .i64 (a1.length : Int)))), (121, .d (.lit (.int .i64 v385)))] [(50, some (.box [.ref 6000 0 r673.1.entries.length, .ref 6001 0 r673.1.savepoints.length])), (53, some (.mp .string (encM MKey.sk (vI .i64) m383))), (183, some (.arr 32 1 (l384.map (cM .string false MKey.sk (cI .i64))))), (6000, some (.arr 30 2 (r673.1.entries.map cS30))), (6001, some (.arr 22 1 (r673.1.savepoints.map (cL cS30))))]) Sub.tt ?_
               refine Chain.nil ?_
               refine AW.region ?_
               refine Chain.runK [] 2 fun K hK => ?_; simp; refine hK _ _ ?_; clear hK K
               refine Chain.sub (S' := mk 234 [] [(2, .d (.sl (a2.map cS))), (9, .ptr 50 0 0), (11, .mref 53), (14, .ref 183 0 l384.length), (17, .d (.lit (.string r611))), (21, .d (.lit (.int .i64 r673.2))), (22, .d (.lit (.int .i64 0))), (119, .d (.sl (a1.map (cL (cI .i64))))), (120, .d (.lit (.int .i64 (a1.length : Int)))), (121, .d (.lit (.int .i64 v385))), (166, .mref 53), (167, .d (.lit (.string r611)))] [(50, some (.box [.ref 6000 0 r673.1.entries.length, .ref 6001 0 r673.1.savepoints.length])), (53, some (.mp .string (encM MKey.sk (vI .i64) m383))), (183, some (.arr 32 1 (l384.map (cM .string false MKey.sk (cI .i64))))), (6000, some (.arr 30 2 (r673.1.entries.map cS30))), (6001, some (.arr 22 1 (r673.1.savepoints.map (cL cS30))))]) Sub.tt ?_
               refine Chain.mdelE (vf := (vI .i64)) sk_inj m383 r611 (by simp) rfl rfl rfl rfl ty32 rfl ty9 rfl rfl rfl rfl rfl ?_
               refine Chain.sub (S' := mk 234 [] [(2, .d (.sl (a2.map cS))), (9, .ptr 50 0 0), (11, .mref 53), (14, .ref 183 0 l384.length), (17, .d (.lit (.string r611))), (21, .d (.lit (.int .i64 r673.2))), (22, .d (.lit (.int .i64 0))), (119, .d (.sl (a1.map (cL (cI .i64))))), (120, .d (.lit (.int .i64 (a1.length : Int)))), (121, .d (.lit (.int .i64 v385))), (166, .mref 53), (167, .d (.lit (.string r611)))] [(50, some (.box [.ref 6000 0 r673.1.entries.length, .ref 6001 0 r673.1.savepoints.length])), (53, some (.mp .string (encM MKey.sk (vI .i64) (Go.Ab.mdel m383 r611)))), (183, some (.arr 32 1 (l384.map (cM .string false MKey.sk (cI .i64))))), (6000, some (.arr 30 2 (r673.1.entries.map cS30))), (6001, some (.arr 22 1 (r673.1.savepoints.map (cL cS30))))]) (by simp; exact Sub.table (by simp) (by simp)) ?_
               refine Chain.nil ?_
               cases h
               refine PostJ.next ?_
               exact Sub.tt
              ·have c674_ : v614 = false := Bool.eq_false_iff.2 c674
               refine AW.condF (b := v614) rfl c674_ ?_
               refine AW.sub (Sub.bool 165 (b := v614) rfl c674_) ?_
               refine AW.sub (S' := mk 234 [] [(2, .d (.sl (a2.map cS))), (9, .ptr 50 0 0), (11, .mref 53), (14, .ref 183 0 l384.length), (17, .d (.lit (.string r611))), (21, .d (.lit (.int .i64 r673.2))), (22, .d (.lit (.int .i64 4))), (119, .d (.sl (a1.map (cL (cI .i64))))), (120, .d (.lit (.int .i64 (a1.length : Int)))), (121, .d (.lit (.int .i64 v385))), (165, .d (.lit (.bool false)))] [(50, some (.box [.ref 6000 0 r673.1.entries.length, .ref 6001 0 r673.1.savepoints.length])), (53, some (.mp .string (encM MKey.sk (vI .i64) m383))), (183, some (.arr 32 1 (l384.map (cM .string false MKey.sk (cI .i64))))), (6000, some (.arr 30 2 (r673.1.entries.map cS30))), (6001, some (.arr 22 1 (r673.1.savepoints.map (cL cS30))))]) (by simp; exact Sub.table (by simp) (by simp)) ?_
               refine AW.skip ?_
               cases h
               refine PostJ.next ?_
               exact Sub.tt
             ·have c672_ : (r615 == 2) = false := Bool.eq_false_iff.2 c672
              refine AW.condF (b := (r615 == 2)) rfl c672_ ?_
              refine AW.sub (Sub.bool 160 (b := (r615 == 2)) rfl c672_) ?_
              refine AW.sub (S' := mk 234 [] [(2, .d (.sl (a2.map cS))), (9, .ptr 50 0 0), (11, .mref 53), (14, .ref 183 0 l384.length), (16, .d (.sl (x608.map (cI .i64)))), (17, .d (.lit (.string r611))), (18, .d (.lit (.int .i64 r612))), (20, .d (.lit (.bool v614))), (21, .d (.lit (.int .i64 0))), (22, .d (.lit (.int .i64 0))), (119, .d (.sl (a1.map (cL (cI .i64))))), (120, .d (.lit (.int .i64 (a1.length : Int)))), (121, .d (.lit (.int .i64 v385))), (138, .d (.lit (.int .i64 r615))), (160, .d (.lit (.bool false)))] [(50, some (.box [.ref 6000 0 l381.length, .ref 6001 0 l382.length])), (53, some (.mp .string (encM MKey.sk (vI .i64) m383))), (183, some (.arr 32 1 (l384.map (cM .string false MKey.sk (cI .i64))))), (6000, some (.arr 30 2 (l381.map cS30))), (6001, some (.arr 22 1 (l382.map (cL cS30))))]) (by simp; exact Sub.table (by simp) (by simp)) ?_
              refine AW.seqR ?_
              refine Chain.runK [] 2 fun K hK => ?_; simp; refine hK _ _ ?_; clear hK K
              refine Chain.sub (S' := mk 234 [] [(2, .d (.sl (a2.map cS))), (9, .ptr 50 0 0), (11, .mref 53), (14, .ref 183 0 l384.length), (16, .d (.sl (x608.map (cI .i64)))), (17, .d (.lit (.string r611))), (18, .d (.lit (.int .i64 r612))), (21, .d (.lit (.int .i64 0))), (22, .d (.lit (.int .i64 0))), (119, .d (.sl (a1.map (cL (cI .i64))))), (120, .d (.lit (.int .i64 (a1.length : Int)))), (121, .d (.lit (.int .i64 v385))), (138, .d (.lit (.int .i64 r615))), (168, .d (.lit (.bool (r615 == 3))))] [(50, some (.box [.ref 6000 0 l381.length, .ref 6001 0 l382.length])), (53, some (.mp .string (encM MKey.sk (vI .i64) m383))), (183, some (.arr 32 1 (l384.map (cM .string false MKey.sk (cI .i64))))), (6000, some (.arr 30 2 (l381.map cS30))), (6001, some (.arr 22 1 (l382.map (cL cS30))))]) Sub.tt ?_
              refine Chain.nil ?_
              replace h := isome h; rcases h with ⟨c675, h⟩ | ⟨c675, h⟩
              ·have c675_ : (r615 == 3) = true := c675
               refine AW.condT (b := (r615 == 3)) rfl c675_ ?_
               refine AW.sub (Sub.bool 168 (b := (r615 == 3)) rfl c675_) ?_
               refine AW.sub (S' := mk 234 [] [(2, .d (.sl (a2.map cS))), (9, .ptr 50 0 0), (11, .mref 53), (14, .ref 183 0 l384.length), (16, .d (.sl (x608.map (cI .i64)))), (17, .d (.lit (.string r611))), (18, .d (.lit (.int .i64 r612))), (21, .d (.lit (.int .i64 0))), (22, .d (.lit (.int .i64 0))), (119, .d (.sl (a1.map (cL (cI .i64))))), (120, .d (.lit (.int .i64 (a1.length : Int)))), (121, .d (.lit (.int .i64 v385))), (138, .d (.lit (.int .i64 r615))), (168, .d (.lit (.bool true)))] [(50, some (.box [.ref 6000 0 l381.length, .ref 6001 0 l382.length])), (53, some (.mp .string (encM MKey.sk (vI .i64) m383))), (183, some (.arr 32 1 (l384.map (cM .string false MKey.sk (cI .i64))))), (6000, some (.arr 30 2 (l381.map cS30))), (6001, some (.arr 22 1 (l382.map (cL cS30))))]) (by simp; exact Sub.table (by simp) (by simp)) ?_
               refine AW.seqR ?_
               refine Chain.runK [] 1 fun K hK => ?_; simp; refine hK _ _ ?_; clear hK K
               refine Chain.sub (S' := mk 234 [] [(2, .d (.sl (a2.map cS))), (9, .ptr 50 0 0), (11, .mref 53), (14, .ref 183 0 l384.length), (17, .d (.lit (.string r611))), (119, .d (.sl (a1.map (cL (cI .i64))))), (120, .d (.lit (.int .i64 (a1.length : Int)))), (121, .d (.lit (.int .i64 v385))), (171, .ptr 50 0 0)] [(50, some (.box [.ref 6000 0 l381.length, .ref 6001 0 l382.length])), (53, some (.mp .string (encM MKey.sk (vI .i64) m383))), (183, some (.arr 32 1 (l384.map (cM .string false MKey.sk (cI .i64))))), (6000, some (.arr 30 2 (l381.map cS30))), (6001, some (.arr 22 1 (l382.map (cL cS30))))]) Sub.tt ?_
               replace h := bsome h; obtain ⟨r676, hr676, h⟩ := h
               refine Chain.callF (p9 N (S47.mk l381 l382) r676 hr676) [(50, 1000), (6000, 25000), (6001, 25001)] [50] [(1000, 50), (25000, 6000), (25001, 6001)] [(50, (.box [.ref 6000 0 r676.1.entries.length, .ref 6001 0 r676.1.savepoints.length])), (6000, (.arr 30 2 (r676.1.entries.map cS30))), (6001, (.arr 22 1 (r676.1.savepoints.map (cL cS30))))] (.tup [.d (.lit (.int .i64 r676.2.1)), .d (.lit (.int .i64 r676.2.2))]) (by simp) rfl (by simp <;> rfl) (by simp) (by simp) (by simp) (by simp) (by simp) ent9 (by simp) (by simp) (by simp) (by simp) (by simp) (by simp) ?_
               refine Chain.sub (S' := mk 234 [] [(2, .d (.sl (a2.map cS))), (9, .ptr 50 0 0), (11, .mref 53), (14, .ref 183 0 l384.length), (17, .d (.lit (.string r611))), (119, .d (.sl (a1.map (cL (cI .i64))))), (120, .d (.lit (.int .i64 (a1.length : Int)))), (121, .d (.lit (.int .i64 v385))), (171, .ptr 50 0 0), (172, .tup [.d (.lit (.int .i64 r676.2.1)), .d (.lit (.int .i64 r676.2.2))])] [(50, some (.box [.ref 6000 0 r676.1.entries.length, .ref 6001 0 r676.1.savepoints.length])), (53, some (.mp .string (encM MKey.sk (vI .i64) m383))), (183, some (.arr 32 1 (l384.map (cM .string false MKey.sk (cI .i64))))), (6000, some (.arr 30 2 (r676.1.entries.map cS30))), (6001, some (.arr 22 1 (r676.1.savepoints.map (cL cS30))))]) (by simp; exact Sub.table (by simp) (by simp)) ?_
               refine Chain.runK [] 5 fun K hK => ?_; simp; refine hK _ _ ?_; clear hK K
               refine Chain.sub (S' := mk 234 [] [(2, .d (.sl (a2.map cS))), (9, .ptr 50 0 0), (11, .mref 53), (14, .ref 183 0 l384.length), (17, .d (.lit (.string r611))), (23, .d (.lit (.int .i64 r676.2.1))), (24, .d (.lit (.int .i64 r676.2.2))), (119, .d (.sl (a1.map (cL (cI .i64))))), (120, .d (.lit (.int .i64 (a1.length : Int)))), (121, .d (.lit (.int .i64 v385)))] [(50, some (.box [.ref 6000 0 r676.1.entries.length, .ref 6001 0 r676.1.savepoints.length])), (53, some (.mp .string (encM MKey.sk (vI .i64) m383))), (183, some (.arr 32 1 (l384.map (cM .string false MKey.sk (cI .i64))))), (6000, some (.arr 30 2 (r676.1.entries.map cS30))), (6001, some (.arr 22 1 (r676.1.savepoints.map (cL cS30))))]) Sub.tt ?_
               refine Chain.nil ?_
               refine AW.seqR ?_
               refine Chain.runK [] 2 fun K hK => ?_; simp; refine hK _ _ ?_; clear hK K
               refine Chain.sub (S' := mk 234 [] [(2, .d (.sl (a2.map cS))), (9, .ptr 50 0 0), (11, .mref 53), (14, .ref 183 0 l384.length), (17, .d (.lit (.string r611))), (21, .d (.lit (.int .i64 r676.2.2))), (23, .d (.lit (.int .i64 r676.2.1))), (119, .d (.sl (a1.map (cL (cI .i64))))), (120, .d (.lit (.int .i64 (a1.length : Int)))), (121, .d (.lit (.int .i64 v385)))] [(50, some (.box [.ref 6000 0 r676.1.entries.length, .ref 6001 0 r676.1.savepoints.length])), (53, some (.mp .string (encM MKey.sk (vI .i64) m383))), (183, some (.arr 32 1 (l384.map (cM .string false MKey.sk (cI .i64))))), (6000, some (.arr 30 2 (r676.1.entries.map cS30))), (6001, some (.arr 22 1 (r676.1.savepoints.map (cL cS30))))]) Sub.tt ?_
               refine Chain.nil ?_
               refine AW.seqR ?_
               refine Chain.runK [] 1 fun K hK => ?_; simp; refine hK _ _ ?_; clear hK K
               refine Chain.sub (S' := mk 234 [] [(2, .d (.sl (a2.map cS))), (9, .ptr 50 0 0), (11, .mref 53), (14, .ref 183 0 l384.length), (17, .d (.lit (.string r611))), (21, .d (.lit (.int .i64 r676.2.2))), (22, .d (.lit (.int .i64 18))), (23, .d (.lit (.int .i64 r676.2.1))), (119, .d (.sl (a1.map (cL (cI .i64))))), (120, .d (.lit (.int .i64 (a1.length : Int)))), (121, .d (.lit (.int .i64 v385)))] [(50, some (.box [.ref 6000 0 r676.1.entries.length, .ref 6001 0 r676.1.savepoints.length])), (53, some (.mp .string (encM MKey.sk (vI .i64) m383))), (183, some (.arr 32 1 (l384.map (cM .string false MKey.sk (cI .i64))))), (6000, some (.arr 30 2 (r676.1.entries.map cS30))), (6001, some (.arr 22 1 (r676.1.savepoints.map (cL cS30))))]) Sub.tt ?_
               refine Chain.nil ?_
               refine AW.seqR ?_
               refine Chain.runK [] 3 fun K hK => ?_; simp; refine hK _ _ ?_; clear hK K
               refine Chain.sub (S' := mk 234 [] [(2, .d (.sl (a2.map cS))), (9, .ptr 50 0 0), (11, .mref 53), (14, .ref 183 0 l384.length), (17, .d (.lit (.string r611))), (21, .d (.lit (.int .i64 r676.2.2))), (22, .d (.lit (.int .i64 18))), (23, .d (.lit (.int .i64 r676.2.1))), (119, .d (.sl (a1.map (cL (cI .i64))))), (120, .d (.lit (.int .i64 (a1.length : Int)))), (121, .d (.lit (.int .i64 v385))), (178, .d (.lit (.bool (decide ((l384.length : Int) < 20)))))] [(50, some (.box [.ref 6000 0 r676.1.entries.length, .ref 6001 0 r676.1.savepoints.length])), (53, some (.mp .string (encM MKey.sk (vI .i64) m383))), (183, some (.arr 32 1 (l384.map (cM .string false MKey.sk (cI .i64))))), (6000, some (.arr 30 2 (r676.1.entries.map cS30))), (6001, some (.arr 22 1 (r676.1.savepoints.map (cL cS30))))]) Sub.tt ?_
               refine Chain.nil ?_
               replace h := isome h; rcases h with ⟨c677, h⟩ | ⟨c677, h⟩
               ·have c677_ : decide ((l384.length : Int) < 20) = true := decide_eq_true c677
                refine AW.condT (b := decide ((l384.length : Int) < 20)) rfl c677_ ?_
                refine AW.sub (Sub.bool 178 (b := decide ((l384.length : Int) < 20)) rfl c677_) ?_
                refine AW.sub (S' := mk 234 [] [(2, .d (.sl (a2.map cS))), (9, .ptr 50 0 0), (11, .mref 53), (14, .ref 183 0 l384.length), (17, .d (.lit (.string r611))), (21, .d (.lit (.int .i64 r676.2.2))), (22, .d (.lit (.int .i64 18))), (23, .d (.lit (.int .i64 r676.2.1))), (119, .d (.sl (a1.map (cL (cI .i64))))), (120, .d (.lit (.int .i64 (a1.length : Int)))), (121, .d (.lit (.int .i64 v385))), (178, .d (.lit (.bool true)))] [(50, some (.box [.ref 6000 0 r676.1.entries.length, .ref 6001 0 r676.1.savepoints.length])), (53, some (.mp .string (encM MKey.sk (vI .i64) m383))), (183, some (.arr 32 1 (l384.map (cM .string false MKey.sk (cI .i64))))), (6000, some (.arr 30 2 (r676.1.entries.map cS30))), (6001, some (.arr 22 1 (r676.1.savepoints.map (cL cS30))))]) (by simp; exact Sub.table (by simp) (by simp)) ?_
                refine AW.seqR ?_
                refine Chain.runK [] 1 fun K hK => ?_; simp; refine hK _ _ ?_; clear hK K
                refine Chain.sub (S' := mk 234 [] [(2, .d (.sl (a2.map cS))), (9, .ptr 50 0 0), (11, .mref 53), (14, .ref 183 0 l384.length), (17, .d (.lit (.string r611))), (21, .d (.lit (.int .i64 r676.2.2))), (22, .d (.lit (.int .i64 0))), (23, .d (.lit (.int .i64 r676.2.1))), (119, .d (.sl (a1.map (cL (cI .i64))))), (120, .d (.lit (.int .i64 (a1.length : Int)))), (121, .d (.lit (.int .i64 v385)))] [(50, some (.box [.ref 6000 0 r676.1.entries.length, .ref 6001 0 r676.1.savepoints.length])), (53, some (.mp .string (encM MKey.sk (vI .i64) m383))), (183, some (.arr 32 1 (l384.map (cM .string false MKey.sk (cI .i64))))), (6000, some (.arr 30 2 (r676.1.entries.map cS30))), (6001, some (.arr 22 1 (r676.1.savepoints.map (cL cS30))))]) Sub.tt ?_
                refine Chain.nil ?_
                refine AW.seqR ?_
                refine Chain.runK [182] 2 fun K hK => ?_; simp; refine hK _ _ ?_; clear hK K
                refine Chain.sub (S' := mk 234 [] [(2, .d (.sl (a2.map cS))), (9, .ptr 50 0 0), (11, .mref 53), (17, .d (.lit (.string r611))), (21, .d (.lit (.int .i64 r676.2.2))), (22, .d (.lit (.int .i64 0))), (23, .d (.lit (.int .i64 r676.2.1))), (119, .d (.sl (a1.map (cL (cI .i64))))), (120, .d (.lit (.int .i64 (a1.length : Int)))), (121, .d (.lit (.int .i64 v385))), (179, .ref 183 0 l384.length), (180, .mref 53)] [(50, some (.box [.ref 6000 0 r676.1.entries.length, .ref 6001 0 r676.1.savepoints.length])), (53, some (.mp .string (encM MKey.sk (vI .i64) m383))), (183, some (.arr 32 1 (l384.map (cM .string false MKey.sk (cI .i64))))), (6000, some (.arr 30 2 (r676.1.entries.map cS30))), (6001, some (.arr 22 1 (r676.1.savepoints.map (cL cS30))))]) Sub.tt ?_
                refine Chain.callMo (d := 181) (clone_om m383) (by simp) rfl rfl (by simp <;> rfl) (by simp <;> rfl) ent10 (by simp) (flatM_vI _ _ _) ?_
                refine Chain.sub (S' := mk 234 [] [(2, .d (.sl (a2.map cS))), (9, .ptr 50 0 0), (11, .mref 53), (17, .d (.lit (.string r611))), (21, .d (.lit (.int .i64 r676.2.2))), (22, .d (.lit (.int .i64 0))), (23, .d (.lit (.int .i64 r676.2.1))), (119, .d (.sl (a1.map (cL (cI .i64))))), (120, .d (.lit (.int .i64 (a1.length : Int)))), (121, .d (.lit (.int .i64 v385))), (179, .ref 183 0 l384.length), (180, .mref 53), (181, .mref 181)] [(50, some (.box [.ref 6000 0 r676.1.entries.length, .ref 6001 0 r676.1.savepoints.length])), (53, some (.mp .string (encM MKey.sk (vI .i64) m383))), (181, some (.mp .string (encM MKey.sk (vI .i64) m383))), (183, some (.arr 32 1 (l384.map (cM .string false MKey.sk (cI .i64))))), (6000, some (.arr 30 2 (r676.1.entries.map cS30))), (6001, some (.arr 22 1 (r676.1.savepoints.map (cL cS30))))]) (by simp; exact Sub.table (by simp) (by simp)) ?_
                refine Chain.sub (Sub.freezeM 181 (ag := false) (cf := (cI .i64)) m383 rfl (fun _ => rfl) (fun _ _ => rfl)) ?_
                refine Chain.sub (S' := mk 234 [] [(2, .d (.sl (a2.map cS))), (9, .ptr 50 0 0), (11, .mref 53), (17, .d (.lit (.string r611))), (21, .d (.lit (.int .i64 r676.2.2))), (22, .d (.lit (.int .i64 0))), (23, .d (.lit (.int .i64 r676.2.1))), (119, .d (.sl (a1.map (cL (cI .i64))))), (120, .d (.lit (.int .i64 (a1.length : Int)))), (121, .d (.lit (.int .i64 v385))), (179, .ref 183 0 l384.length), (180, .mref 53), (181, .d (.mpi .string false (m383.map (MKey.sk ∘ Prod.fst)) (m383.map ((cI .i64) ∘ Prod.snd))))] [(50, some (.box [.ref 6000 0 r676.1.entries.length, .ref 6001 0 r676.1.savepoints.length])), (53, some (.mp .string (encM MKey.sk (vI .i64) m383))), (183, some (.arr 32 1 (l384.map (cM .string false MKey.sk (cI .i64))))), (6000, some (.arr 30 2 (r676.1.entries.map cS30))), (6001, some (.arr 22 1 (r676.1.savepoints.map (cL cS30))))]) (by simp; exact Sub.table (by simp) (by simp)) ?_
                replace h := bsome h; obtain ⟨l678, hl678, h⟩ := h
                obtain ⟨hl678a, hl678⟩ := appL_some hl678
                subst hl678
                try simp only [List.length_cons, List.length_nil, Nat.zero_add] at hl678a
                refine Chain.runK [182] 3 fun K hK => ?_; simp [hl678a]; refine hK _ _ ?_; clear hK K
                refine Chain.sub (S' := mk 234 [] [(2, .d (.sl (a2.map cS))), (9, .ptr 50 0 0), (11, .mref 53), (14, .ref 183 0 ((l384 ++ [m383]).length)), (17, .d (.lit (.string r611))), (21, .d (.lit (.int .i64 r676.2.2))), (22, .d (.lit (.int .i64 0))), (23, .d (.lit (.int .i64 r676.2.1))), (119, .d (.sl (a1.map (cL (cI .i64))))), (120, .d (.lit (.int .i64 (a1.length : Int)))), (121, .d (.lit (.int .i64 v385)))] [(50, some (.box [.ref 6000 0 r676.1.entries.length, .ref 6001 0 r676.1.savepoints.length])), (53, some (.mp .string (encM MKey.sk (vI .i64) m383))), (183, some (.arr 32 1 ((l384 ++ [m383]).map (cM .string false MKey.sk (cI .i64))))), (6000, some (.arr 30 2 (r676.1.entries.map cS30))), (6001, some (.arr 22 1 (r676.1.savepoints.map (cL cS30))))]) Sub.tt ?_
                refine Chain.nil ?_
                refine AW.seqR ?_
                refine Chain.runK [] 4 fun K hK => ?_; simp; refine hK _ _ ?_; clear hK K
                refine Chain.sub (S' := mk 234 [] [(2, .d (.sl (a2.map cS))), (9, .ptr 50 0 0), (11, .mref 53), (14, .ref 183 0 ((l384 ++ [m383]).length)), (17, .d (.lit (.string r611))), (21, .d (.lit (.int .i64 r676.2.2))), (22, .d (.lit (.int .i64 0))), (119, .d (.sl (a1.map (cL (cI .i64))))), (120, .d (.lit (.int .i64 (a1.length : Int)))), (121, .d (.lit (.int .i64 v385))), (187, .d (.lit (.bool (r676.2.1 != ((l384 ++ [m383]).length : Int)))))] [(50, some (.box [.ref 6000 0 r676.1.entries.length, .ref 6001 0 r676.1.savepoints.length])), (53, some (.mp .string (encM MKey.sk (vI .i64) m383))), (183, some (.arr 32 1 ((l384 ++ [m383]).map (cM .string false MKey.sk (cI .i64))))), (6000, some (.arr 30 2 (r676.1.entries.map cS30))), (6001, some (.arr 22 1 (r676.1.savepoints.map (cL cS30))))]) Sub.tt ?_
                refine Chain.nil ?_
                replace h := isome h; rcases h with ⟨c679, h⟩ | ⟨c679, h⟩
                ·have c679_ : (r676.2.1 != ((l384 ++ [m383]).length : Int)) = true := c679
                 refine AW.condT (b := (r676.2.1 != ((l384 ++ [m383]).length : Int))) rfl c679_ ?_
                 refine AW.sub (Sub.bool 187 (b := (r676.2.1 != ((l384 ++ [m383]).length : Int))) rfl c679_) ?_
                 refine AW.sub (S' := mk 234 [] [(2, .d (.sl (a2.map cS))), (9, .ptr 50 0 0), (11, .mref 53), (14, .ref 183 0 ((l384 ++ [m383]).length)), (17, .d (.lit (.string r611))), (21, .d (.lit (.int .i64 r676.2.2))), (22, .d (.lit (.int .i64 0))), (119, .d (.sl (a1.map (cL (cI .i64))))), (120, .d (.lit (.int .i64 (a1.length : Int)))), (121, .d (.lit (.int .i64 v385))), (187, .d (.lit (.bool true)))] [(50, some (.box [.ref 6000 0 r676.1.entries.length, .ref 6001 0 r676.1.savepoints.length])), (53, some (.mp .string (encM MKey.sk (vI .i64) m383))), (183, some (.arr 32 1 ((l384 ++ [m383]).map (cM .string false MKey.sk (cI .i64))))), (6000, some (.arr 30 2 (r676.1.entries.map cS30))), (6001, some (.arr 22 1 (r676.1.savepoints.map (cL cS30))))]) (by simp; exact Sub.table (by simp) (by simp)) ?_
                 refine AW.seqR ?_
                 refine Chain.runK [] 1 fun K hK => ?_; simp; refine hK _ _ ?_; clear hK K
                 refine Chain.sub (S' := mk 234 [] [(6, .d (.lit (.bool false)))] []) Sub.tt ?_
                 refine Chain.nil ?_
                 refine AW.ret ?_
                 cases h
                 refine PostJ.out (by simp) ?_
                 rintro rfl
                 refine blockQ.ret ?_
                 refine thenQ_pass (by simp) ?_
                 refine blockQ.ret ?_
                 refine thenQ_pass (by simp) ?_
                 refine PostI.out (by simp) ?_
                 rintro rfl
                 refine blockQ.ret ?_
                 refine PostJ.out (by simp) ?_
                 rintro rfl
                 refine thenQ_pass (by simp) ?_
                 exact FinC.ret (by simp) (by simp)
                ·have c679_ : (r676.2.1 != ((l384 ++ [m383]).length : Int)) = false := Bool.eq_false_iff.2 c679
                 refine AW.condF (b := (r676.2.1 != ((l384 ++ [m383]).length : Int))) rfl c679_ ?_
                 refine AW.sub (Sub.bool 187 (b := (r676.2.1 != ((l384 ++ [m383]).length : Int))) rfl c679_) ?_
                 refine AW.sub (S' := mk 234 [] [(2, .d (.sl (a2.map cS))), (9, .ptr 50 0 0), (11, .mref 53), (14, .ref 183 0 ((l384 ++ [m383]).length)), (17, .d (.lit (.string r611))), (21, .d (.lit (.int .i64 r676.2.2))), (22, .d (.lit (.int .i64 0))), (119, .d (.sl (a1.map (cL (cI .i64))))), (120, .d (.lit (.int .i64 (a1.length : Int)))), (121, .d (.lit (.int .i64 v385))), (187, .d (.lit (.bool false)))] [(50, some (.box [.ref 6000 0 r676.1.entries.length, .ref 6001 0 r676.1.savepoints.length])), (53, some (.mp .string (encM MKey.sk (vI .i64) m383))), (183, some (.arr 32 1 ((l384 ++ [m383]).map (cM .string false MKey.sk (cI .i64))))), (6000, some (.arr 30 2 (r676.1.entries.map cS30))), (6001, some (.arr 22 1 (r676.1.savepoints.map (cL cS30))))]) (by simp; exact Sub.table (by simp) (by simp)) ?_
                 refine AW.skip ?_
                 cases h
                 refine PostJ.next ?_
                 exact Sub.tt
               ·have c677_ : decide ((l384.length : Int) < 20) = false := decide_eq_false c677
                refine AW.condF (b := decide ((l384.length : Int) < 20)) rfl c677_ ?_
                refine AW.sub (Sub.bool 178 (b := decide ((l384.length : Int) < 20)) rfl c677_) ?_
                refine AW.sub (S' := mk 234 [] [(2, .d (.sl (a2.map cS))), (9, .ptr 50 0 0), (11, .mref 53), (14, .ref 183 0 l384.length), (17, .d (.lit (.string r611))), (21, .d (.lit (.int .i64 r676.2.2))), (22, .d (.lit (.int .i64 18))), (23, .d (.lit (.int .i64 r676.2.1))), (119, .d (.sl (a1.map (cL (cI .i64))))), (120, .d (.lit (.int .i64 (a1.length : Int)))), (121, .d (.lit (.int .i64 v385))), (178, .d (.lit (.bool false)))] [(50, some (.box [.ref 6000 0 r676.1.entries.length, .ref 6001 0 r676.1.savepoints.length])), (53, some (.mp .string (encM MKey.sk (vI .i64) m383))), (183, some (.arr 32 1 (l384.map (cM .string false MKey.sk (cI .i64))))), (6000, some (.arr 30 2 (r676.1.entries.map cS30))), (6001, some (.arr 22 1 (r676.1.savepoints.map (cL cS30))))]) (by simp; exact Sub.table (by simp) (by simp)) ?_
                refine AW.skip ?_
                cases h
                refine PostJ.next ?_
                exact Sub.tt
              ·have c675_ : (r615 == 3) = false := Bool.eq_false_iff.2 c675
               refine AW.condF (b := (r615 == 3)) rfl c675_ ?_
               refine AW.sub (Sub.bool 168 (b := (r615 == 3)) rfl c675_) ?_
               refine AW.sub (S' := mk 234 [] [(2, .d (.sl (a2.map cS))), (9, .ptr 50 0 0), (11, .mref 53), (14, .ref 183 0 l384.length), (16, .d (.sl (x608.map (cI .i64)))), (17, .d (.lit (.string r611))), (18, .d (.lit (.int .i64 r612))), (21, .d (.lit (.int .i64 0))), (22, .d (.lit (.int .i64 0))), (119, .d (.sl (a1.map (cL (cI .i64))))), (120, .d (.lit (.int .i64 (a1.length : Int)))), (121, .d (.lit (.int .i64 v385))), (138, .d (.lit (.int .i64 r615))), (168, .d (.lit (.bool false)))] [(50, some (.box [.ref 6000 0 l381.length, .ref 6001 0 l382.length])), (53, some (.mp .string (encM MKey.sk (vI .i64) m383))), (183, some (.arr 32 1 (l384.map (cM .string false MKey.sk (cI .i64))))), (6000, some (.arr 30 2 (l381.map cS30))), (6001, some (.arr 22 1 (l382.map (cL cS30))))]) (by simp; exact Sub.table (by simp) (by simp)) ?_
               refine AW.seq ?_
               refine AW.seqR ?_
               refine Chain.runK [] 2 fun K hK => ?_; simp; refine hK _ _ ?_; clear hK K
               refine Chain.sub (S' := mk 234 [] [(2, .d (.sl (a2.map cS))), (9, .ptr 50 0 0), (11, .mref 53), (14, .ref 183 0 l384.length), (16, .d (.sl (x608.map (cI .i64)))), (17, .d (.lit (.string r611))), (18, .d (.lit (.int .i64 r612))), (21, .d (.lit (.int .i64 0))), (22, .d (.lit (.int .i64 0))), (119, .d (.sl (a1.map (cL (cI .i64))))), (120, .d (.lit (.int .i64 (a1.length : Int)))), (121, .d (.lit (.int .i64 v385))), (138, .d (.lit (.int .i64 r615))), (188, .d (.lit (.bool (r615 == 4))))] [(50, some (.box [.ref 6000 0 l381.length, .ref 6001 0 l382.length])), (53, some (.mp .string (encM MKey.sk (vI .i64) m383))), (183, some (.arr 32 1 (l384.map (cM .string false MKey.sk (cI .i64))))), (6000, some (.arr 30 2 (l381.map cS30))), (6001, some (.arr 22 1 (l382.map (cL cS30))))]) Sub.tt ?_
               refine Chain.nil ?_
               refine AW.lastN (fun (v681 : Bool) => mk 234 [] [(2, .d (.sl (a2.map cS))), (9, .ptr 50 0 0), (11, .mref 53), (14, .ref 183 0 l384.length), (16, .d (.sl (x608.map (cI .i64)))), (17, .d (.lit (.string r611))), (18, .d (.lit (.int .i64 r612))), (21, .d (.lit (.int .i64 0))), (22, .d (.lit (.int .i64 0))), (119, .d (.sl (a1.map (cL (cI .i64))))), (120, .d (.lit (.int .i64 (a1.length : Int)))), (121, .d (.lit (.int .i64 v385))), (188, .d (.lit (.bool v681)))] [(50, some (.box [.ref 6000 0 l381.length, .ref 6001 0 l382.length])), (53, some (.mp .string (encM MKey.sk (vI .i64) m383))), (183, some (.arr 32 1 (l384.map (cM .string false MKey.sk (cI .i64))))), (6000, some (.arr 30 2 (l381.map cS30))), (6001, some (.arr 22 1 (l382.map (cL cS30))))]) h ?_ ?_ <;> clear h
               ·intro o h
                replace h := isome h; rcases h with ⟨c682, h⟩ | ⟨c682, h⟩
                ·have c682_ : (r615 == 4) = true := c682
                 refine AW.condT (b := (r615 == 4)) rfl c682_ ?_
                 refine AW.sub (Sub.bool 188 (b := (r615 == 4)) rfl c682_) ?_
                 refine AW.sub (S' := mk 234 [] [(2, .d (.sl (a2.map cS))), (9, .ptr 50 0 0), (11, .mref 53), (14, .ref 183 0 l384.length), (16, .d (.sl (x608.map (cI .i64)))), (17, .d (.lit (.string r611))), (18, .d (.lit (.int .i64 r612))), (21, .d (.lit (.int .i64 0))), (22, .d (.lit (.int .i64 0))), (119, .d (.sl (a1.map (cL (cI .i64))))), (120, .d (.lit (.int .i64 (a1.length : Int)))), (121, .d (.lit (.int .i64 v385))), (138, .d (.lit (.int .i64 r615))), (188, .d (.lit (.bool true)))] [(50, some (.box [.ref 6000 0 l381.length, .ref 6001 0 l382.length])), (53, some (.mp .string (encM MKey.sk (vI .i64) m383))), (183, some (.arr 32 1 (l384.map (cM .string false MKey.sk (cI .i64))))), (6000, some (.arr 30 2 (l381.map cS30))), (6001, some (.arr 22 1 (l382.map (cL cS30))))]) (by simp; exact Sub.table (by simp) (by simp)) ?_
                 refine AW.skip ?_
                 cases h
                 refine PostN.next ?_
                 exact Sub.tt
                ·have c682_ : (r615 == 4) = false := Bool.eq_false_iff.2 c682
                 refine AW.condF (b := (r615 == 4)) rfl c682_ ?_
                 refine AW.sub (Sub.bool 188 (b := (r615 == 4)) rfl c682_) ?_
                 refine AW.sub (S' := mk 234 [] [(2, .d (.sl (a2.map cS))), (9, .ptr 50 0 0), (11, .mref 53), (14, .ref 183 0 l384.length), (16, .d (.sl (x608.map (cI .i64)))), (17, .d (.lit (.string r611))), (18, .d (.lit (.int .i64 r612))), (21, .d (.lit (.int .i64 0))), (22, .d (.lit (.int .i64 0))), (119, .d (.sl (a1.map (cL (cI .i64))))), (120, .d (.lit (.int .i64 (a1.length : Int)))), (121, .d (.lit (.int .i64 v385))), (138, .d (.lit (.int .i64 r615))), (188, .d (.lit (.bool false)))] [(50, some (.box [.ref 6000 0 l381.length, .ref 6001 0 l382.length])), (53, some (.mp .string (encM MKey.sk (vI .i64) m383))), (183, some (.arr 32 1 (l384.map (cM .string false MKey.sk (cI .i64))))), (6000, some (.arr 30 2 (l381.map cS30))), (6001, some (.arr 22 1 (l382.map (cL cS30))))]) (by simp; exact Sub.table (by simp) (by simp)) ?_
                 refine AW.region ?_
                 refine Chain.runK [] 2 fun K hK => ?_; simp; refine hK _ _ ?_; clear hK K
                 refine Chain.sub (S' := mk 234 [] [(2, .d (.sl (a2.map cS))), (9, .ptr 50 0 0), (11, .mref 53), (14, .ref 183 0 l384.length), (16, .d (.sl (x608.map (cI .i64)))), (17, .d (.lit (.string r611))), (18, .d (.lit (.int .i64 r612))), (21, .d (.lit (.int .i64 0))), (22, .d (.lit (.int .i64 0))), (119, .d (.sl (a1.map (cL (cI .i64))))), (120, .d (.lit (.int .i64 (a1.length : Int)))), (121, .d (.lit (.int .i64 v385))), (188, .d (.lit (.bool (r615 == 5))))] [(50, some (.box [.ref 6000 0 l381.length, .ref 6001 0 l382.length])), (53, some (.mp .string (encM MKey.sk (vI .i64) m383))), (183, some (.arr 32 1 (l384.map (cM .string false MKey.sk (cI .i64))))), (6000, some (.arr 30 2 (l381.map cS30))), (6001, some (.arr 22 1 (l382.map (cL cS30))))]) Sub.tt ?_
                 refine Chain.nil ?_
                 cases h
                 refine PostN.next ?_
                 exact Sub.tt
               ·rintro v681 h
                refine thenQ_normal ?_
                replace h := isome h; rcases h with ⟨c683, h⟩ | ⟨c683, h⟩
                ·have c683_ : v681 = true := c683
                 refine AW.condT (b := v681) rfl c683_ ?_
                 refine AW.sub (Sub.bool 188 (b := v681) rfl c683_) ?_
                 refine AW.sub (S' := mk 234 [] [(2, .d (.sl (a2.map cS))), (9, .ptr 50 0 0), (11, .mref 53), (14, .ref 183 0 l384.length), (16, .d (.sl (x608.map (cI .i64)))), (17, .d (.lit (.string r611))), (18, .d (.lit (.int .i64 r612))), (21, .d (.lit (.int .i64 0))), (22, .d (.lit (.int .i64 0))), (119, .d (.sl (a1.map (cL (cI .i64))))), (120, .d (.lit (.int .i64 (a1.length : Int)))), (121, .d (.lit (.int .i64 v385))), (188, .d (.lit (.bool true)))] [(50, some (.box [.ref 6000 0 l381.length, .ref 6001 0 l382.length])), (53, some (.mp .string (encM MKey.sk (vI .i64) m383))), (183, some (.arr 32 1 (l384.map (cM .string false MKey.sk (cI .i64))))), (6000, some (.arr 30 2 (l381.map cS30))), (6001, some (.arr 22 1 (l382.map (cL cS30))))]) (by simp; exact Sub.table (by simp) (by simp)) ?_
                 refine AW.seqR ?_
                 refine Chain.runK [] 1 fun K hK => ?_; simp; refine hK _ _ ?_; clear hK K
                 refine Chain.sub (S' := mk 234 [] [(2, .d (.sl (a2.map cS))), (9, .ptr 50 0 0), (11, .mref 53), (14, .ref 183 0 l384.length), (17, .d (.lit (.string r611))), (18, .d (.lit (.int .i64 r612))), (119, .d (.sl (a1.map (cL (cI .i64))))), (120, .d (.lit (.int .i64 (a1.length : Int)))), (121, .d (.lit (.int .i64 v385))), (191, .d (.sl (x608.map (cI .i64))))] [(50, some (.box [.ref 6000 0 l381.length, .ref 6001 0 l382.length])), (53, some (.mp .string (encM MKey.sk (vI .i64) m383))), (183, some (.arr 32 1 (l384.map (cM .string false MKey.sk (cI .i64))))), (6000, some (.arr 30 2 (l381.map cS30))), (6001, some (.arr 22 1 (l382.map (cL cS30))))]) Sub.tt ?_
                 replace h := bsome h; obtain ⟨r684, hr684, h⟩ := h
                 refine Chain.callL (d := 192) (p7 N x608 0 r684 hr684) (by simp) rfl rfl (by simp <;> rfl) (by simp <;> rfl) ent7 (by simp <;> rfl) ?_
                 refine Chain.sub (S' := mk 234 [] [(2, .d (.sl (a2.map cS))), (9, .ptr 50 0 0), (11, .mref 53), (14, .ref 183 0 l384.length), (17, .d (.lit (.string r611))), (18, .d (.lit (.int .i64 r612))), (119, .d (.sl (a1.map (cL (cI .i64))))), (120, .d (.lit (.int .i64 (a1.length : Int)))), (121, .d (.lit (.int .i64 v385))), (191, .d (.sl (x608.map (cI .i64)))), (192, .d (.lit (.int .i64 r684)))] [(50, some (.box [.ref 6000 0 l381.length, .ref 6001 0 l382.length])), (53, some (.mp .string (encM MKey.sk (vI .i64) m383))), (183, some (.arr 32 1 (l384.map (cM .string false MKey.sk (cI .i64))))), (6000, some (.arr 30 2 (l381.map cS30))), (6001, some (.arr 22 1 (l382.map (cL cS30))))]) (by simp; exact Sub.table (by simp) (by simp)) ?_
                 refine Chain.runK [] 2 fun K hK => ?_; simp; refine hK _ _ ?_; clear hK K
                 refine Chain.sub (S' := mk 234 [] [(2, .d (.sl (a2.map cS))), (9, .ptr 50 0 0), (11, .mref 53), (14, .ref 183 0 l384.length), (17, .d (.lit (.string r611))), (18, .d (.lit (.int .i64 r612))), (25, .d (.lit (.bool (r684 == 4)))), (119, .d (.sl (a1.map (cL (cI .i64))))), (120, .d (.lit (.int .i64 (a1.length : Int)))), (121, .d (.lit (.int .i64 v385)))] [(50, some (.box [.ref 6000 0 l381.length, .ref 6001 0 l382.length])), (53, some (.mp .string (encM MKey.sk (vI .i64) m383))), (183, some (.arr 32 1 (l384.map (cM .string false MKey.sk (cI .i64))))), (6000, some (.arr 30 2 (l381.map cS30))), (6001, some (.arr 22 1 (l382.map (cL cS30))))]) Sub.tt ?_
                 refine Chain.nil ?_
                 refine AW.seq ?_
                 refine AW.seqR ?_
                 refine Chain.runK [] 1 fun K hK => ?_; simp; refine hK _ _ ?_; clear hK K
                 refine Chain.sub (S' := mk 234 [] [(2, .d (.sl (a2.map cS))), (9, .ptr 50 0 0), (11, .mref 53), (14, .ref 183 0 l384.length), (17, .d (.lit (.string r611))), (18, .d (.lit (.int .i64 r612))), (25, .d (.lit (.bool (r684 == 4)))), (119, .d (.sl (a1.map (cL (cI .i64))))), (120, .d (.lit (.int .i64 (a1.length : Int)))), (121, .d (.lit (.int .i64 v385))), (194, .d (.lit (.bool (r684 == 4))))] [(50, some (.box [.ref 6000 0 l381.length, .ref 6001 0 l382.length])), (53, some (.mp .string (encM MKey.sk (vI .i64) m383))), (183, some (.arr 32 1 (l384.map (cM .string false MKey.sk (cI .i64))))), (6000, some (.arr 30 2 (l381.map cS30))), (6001, some (.arr 22 1 (l382.map (cL cS30))))]) Sub.tt ?_
                 refine Chain.nil ?_
                 refine AW.lastN (fun ((l688, l689, v690, v691) : ((List S30) × (List (List S30)) × Int × Bool)) => mk 234 [] [(2, .d (.sl (a2.map cS))), (9, .ptr 50 0 0), (11, .mref 53), (14, .ref 183 0 l384.length), (17, .d (.lit (.string r611))), (18, .d (.lit (.int .i64 r612))), (21, .d (.lit (.int .i64 v690))), (25, .d (.lit (.bool v691))), (119, .d (.sl (a1.map (cL (cI .i64))))), (120, .d (.lit (.int .i64 (a1.length : Int)))), (121, .d (.lit (.int .i64 v385)))] [(50, some (.box [.ref 6000 0 l688.length, .ref 6001 0 l689.length])), (53, some (.mp .string (encM MKey.sk (vI .i64) m383))), (183, some (.arr 32 1 (l384.map (cM .string false MKey.sk (cI .i64))))), (6000, some (.arr 30 2 (l688.map cS30))), (6001, some (.arr 22 1 (l689.map (cL cS30))))]) h ?_ ?_ <;> clear h
                 ·intro o h
                  replace h := isome h; rcases h with ⟨c692, h⟩ | ⟨c692, h⟩
                  ·have c692_ : (r684 == 4) = true := c692
                   refine AW.condT (b := (r684 == 4)) rfl c692_ ?_
                   refine AW.sub (Sub.bool 25 (b := (r684 == 4)) rfl c692_) ?_
                   refine AW.sub (Sub.bool 194 (b := (r684 == 4)) rfl c692_) ?_
                   refine AW.sub (S' := mk 234 [] [(2, .d (.sl (a2.map cS))), (9, .ptr 50 0 0), (11, .mref 53), (14, .ref 183 0 l384.length), (17, .d (.lit (.string r611))), (18, .d (.lit (.int .i64 r612))), (25, .d (.lit (.bool true))), (119, .d (.sl (a1.map (cL (cI .i64))))), (120, .d (.lit (.int .i64 (a1.length : Int)))), (121, .d (.lit (.int .i64 v385))), (194, .d (.lit (.bool true)))] [(50, some (.box [.ref 6000 0 l381.length, .ref 6001 0 l382.length])), (53, some (.mp .string (encM MKey.sk (vI .i64) m383))), (183, some (.arr 32 1 (l384.map (cM .string false MKey.sk (cI .i64))))), (6000, some (.arr 30 2 (l381.map cS30))), (6001, some (.arr 22 1 (l382.map (cL cS30))))]) (by simp; exact Sub.table (by simp) (by simp)) ?_
                   refine AW.region ?_
                   refine Chain.runK [] 2 fun K hK => ?_; simp; refine hK _ _ ?_; clear hK K
                   refine Chain.sub (S' := mk 234 [] [(2, .d (.sl (a2.map cS))), (9, .ptr 50 0 0), (11, .mref 53), (14, .ref 183 0 l384.length), (17, .d (.lit (.string r611))), (18, .d (.lit (.int .i64 r612))), (25, .d (.lit (.bool true))), (119, .d (.sl (a1.map (cL (cI .i64))))), (120, .d (.lit (.int .i64 (a1.length : Int)))), (121, .d (.lit (.int .i64 v385))), (195, .ptr 50 0 0), (196, .d (.lit (.int .i64 r612)))] [(50, some (.box [.ref 6000 0 l381.length, .ref 6001 0 l382.length])), (53, some (.mp .string (encM MKey.sk (vI .i64) m383))), (183, some (.arr 32 1 (l384.map (cM .string false MKey.sk (cI .i64))))), (6000, some (.arr 30 2 (l381.map cS30))), (6001, some (.arr 22 1 (l382.map (cL cS30))))]) Sub.tt ?_
                   replace h := bsome h; obtain ⟨r693, hr693, h⟩ := h
                   refine Chain.callF (p11 N (S47.mk l381 l382) r612 r693 hr693) [(50, 1000), (6000, 25000), (6001, 25001)] [50] [(1000, 50), (25000, 6000), (25001, 6001)] [(50, (.box [.ref 6000 0 r693.1.entries.length, .ref 6001 0 r693.1.savepoints.length])), (6000, (.arr 30 2 (r693.1.entries.map cS30))), (6001, (.arr 22 1 (r693.1.savepoints.map (cL cS30))))] (.d (.lit (.int .i64 r693.2))) (by simp) rfl (by simp <;> rfl) (by simp) (by simp) (by simp) (by simp) (by simp) ent11 (by simp) (by simp) (by simp) (by simp) (by simp) (by simp) ?_
                   refine Chain.sub (S' := mk 234 [] [(2, .d (.sl (a2.map cS))), (9, .ptr 50 0 0), (11, .mref 53), (14, .ref 183 0 l384.length), (17, .d (.lit (.string r611))), (18, .d (.lit (.int .i64 r612))), (25, .d (.lit (.bool true))), (119, .d (.sl (a1.map (cL (cI .i64))))), (120, .d (.lit (.int .i64 (a1.length : Int)))), (121, .d (.lit (.int .i64 v385))), (195, .ptr 50 0 0), (196, .d (.lit (.int .i64 r612))), (197, .d (.lit (.int .i64 r693.2)))] [(50, some (.box [.ref 6000 0 r693.1.entries.length, .ref 6001 0 r693.1.savepoints.length])), (53, some (.mp .string (encM MKey.sk (vI .i64) m383))), (183, some (.arr 32 1 (l384.map (cM .string false MKey.sk (cI .i64))))), (6000, some (.arr 30 2 (r693.1.entries.map cS30))), (6001, some (.arr 22 1 (r693.1.savepoints.map (cL cS30))))]) (by simp; exact Sub.table (by simp) (by simp)) ?_
                   refine Chain.runK [] 1 fun K hK => ?_; simp; refine hK _ _ ?_; clear hK K
                   refine Chain.sub (S' := mk 234 [] [(2, .d (.sl (a2.map cS))), (9, .ptr 50 0 0), (11, .mref 53), (14, .ref 183 0 l384.length), (17, .d (.lit (.string r611))), (18, .d (.lit (.int .i64 r612))), (21, .d (.lit (.int .i64 r693.2))), (25, .d (.lit (.bool true))), (119, .d (.sl (a1.map (cL (cI .i64))))), (120, .d (.lit (.int .i64 (a1.length : Int)))), (121, .d (.lit (.int .i64 v385)))] [(50, some (.box [.ref 6000 0 r693.1.entries.length, .ref 6001 0 r693.1.savepoints.length])), (53, some (.mp .string (encM MKey.sk (vI .i64) m383))), (183, some (.arr 32 1 (l384.map (cM .string false MKey.sk (cI .i64))))), (6000, some (.arr 30 2 (r693.1.entries.map cS30))), (6001, some (.arr 22 1 (r693.1.savepoints.map (cL cS30))))]) Sub.tt ?_
                   refine Chain.nil ?_
                   cases h
                   refine PostN.next ?_
                   exact Sub.tt
                  ·have c692_ : (r684 == 4) = false := Bool.eq_false_iff.2 c692
                   refine AW.condF (b := (r684 == 4)) rfl c692_ ?_
                   refine AW.sub (Sub.bool 25 (b := (r684 == 4)) rfl c692_) ?_
                   refine AW.sub (Sub.bool 194 (b := (r684 == 4)) rfl c692_) ?_
                   refine AW.sub (S' := mk 234 [] [(2, .d (.sl (a2.map cS))), (9, .ptr 50 0 0), (11, .mref 53), (14, .ref 183 0 l384.length), (17, .d (.lit (.string r611))), (18, .d (.lit (.int .i64 r612))), (25, .d (.lit (.bool false))), (119, .d (.sl (a1.map (cL (cI .i64))))), (120, .d (.lit (.int .i64 (a1.length : Int)))), (121, .d (.lit (.int .i64 v385))), (194, .d (.lit (.bool false)))] [(50, some (.box [.ref 6000 0 l381.length, .ref 6001 0 l382.length])), (53, some (.mp .string (encM MKey.sk (vI .i64) m383))), (183, some (.arr 32 1 (l384.map (cM .string false MKey.sk (cI .i64))))), (6000, some (.arr 30 2 (l381.map cS30))), (6001, some (.arr 22 1 (l382.map (cL cS30))))]) (by simp; exact Sub.table (by simp) (by simp)) ?_
                   refine AW.region ?_
                   refine Chain.runK [] 2 fun K hK => ?_; simp; refine hK _ _ ?_; clear hK K
                   refine Chain.sub (S' := mk 234 [] [(2, .d (.sl (a2.map cS))), (9, .ptr 50 0 0), (11, .mref 53), (14, .ref 183 0 l384.length), (17, .d (.lit (.string r611))), (18, .d (.lit (.int .i64 r612))), (25, .d (.lit (.bool false))), (119, .d (.sl (a1.map (cL (cI .i64))))), (120, .d (.lit (.int .i64 (a1.length : Int)))), (121, .d (.lit (.int .i64 v385))), (198, .ptr 50 0 0), (199, .d (.lit (.int .i64 r612)))] [(50, some (.box [.ref 6000 0 l381.length, .ref 6001 0 l382.length])), (53, some (.mp .string (encM MKey.sk (vI .i64) m383))), (183, some (.arr 32 1 (l384.map (cM .string false MKey.sk (cI .i64))))), (6000, some (.arr 30 2 (l381.map cS30))), (6001, some (.arr 22 1 (l382.map (cL cS30))))]) Sub.tt ?_
                   replace h := bsome h; obtain ⟨r694, hr694, h⟩ := h
                   refine Chain.callF (p12 N (S47.mk l381 l382) r612 r694 hr694) [(50, 1000), (6000, 25000), (6001, 25001)] [50] [(1000, 50), (25000, 6000), (25001, 6001)] [(50, (.box [.ref 6000 0 r694.1.entries.length, .ref 6001 0 r694.1.savepoints.length])), (6000, (.arr 30 2 (r694.1.entries.map cS30))), (6001, (.arr 22 1 (r694.1.savepoints.map (cL cS30))))] (.d (.lit (.int .i64 r694.2))) (by simp) rfl (by simp <;> rfl) (by simp) (by simp) (by simp) (by simp) (by simp) ent12 (by simp) (by simp) (by simp) (by simp) (by simp) (by simp) ?_
                   refine Chain.sub (S' := mk 234 [] [(2, .d (.sl (a2.map cS))), (9, .ptr 50 0 0), (11, .mref 53), (14, .ref 183 0 l384.length), (17, .d (.lit (.string r611))), (18, .d (.lit (.int .i64 r612))), (25, .d (.lit (.bool false))), (119, .d (.sl (a1.map (cL (cI .i64))))), (120, .d (.lit (.int .i64 (a1.length : Int)))), (121, .d (.lit (.int .i64 v385))), (198, .ptr 50 0 0), (199, .d (.lit (.int .i64 r612))), (200, .d (.lit (.int .i64 r694.2)))] [(50, some (.box [.ref 6000 0 r694.1.entries.length, .ref 6001 0 r694.1.savepoints.length])), (53, some (.mp .string (encM MKey.sk (vI .i64) m383))), (183, some (.arr 32 1 (l384.map (cM .string false MKey.sk (cI .i64))))), (6000, some (.arr 30 2 (r694.1.entries.map cS30))), (6001, some (.arr 22 1 (r694.1.savepoints.map (cL cS30))))]) (by simp; exact Sub.table (by simp) (by simp)) ?_
                   refine Chain.runK [] 1 fun K hK => ?_; simp; refine hK _ _ ?_; clear hK K
                   refine Chain.sub (S' := mk 234 [] [(2, .d (.sl (a2.map cS))), (9, .ptr 50 0 0), (11, .mref 53), (14, .ref 183 0 l384.length), (17, .d (.lit (.string r611))), (18, .d (.lit (.int .i64 r612))), (21, .d (.lit (.int .i64 r694.2))), (25, .d (.lit (.bool false))), (119, .d (.sl (a1.map (cL (cI .i64))))), (120, .d (.lit (.int .i64 (a1.length : Int)))), (121, .d (.lit (.int .i64 v385)))] [(50, some (.box [.ref 6000 0 r694.1.entries.length, .ref 6001 0 r694.1.savepoints.length])), (53, some (.mp .string (encM MKey.sk (vI .i64) m383))), (183, some (.arr 32 1 (l384.map (cM .string false MKey.sk (cI .i64))))), (6000, some (.arr 30 2 (r694.1.entries.map cS30))), (6001, some (.arr 22 1 (r694.1.savepoints.map (cL cS30))))]) Sub.tt ?_
                   refine Chain.nil ?_
                   cases h
                   refine PostN.next ?_
                   exact Sub.tt
                 ·rintro ⟨l688, l689, v690, v691⟩ h
                  dsimp only at h ⊢
                  refine thenQ_normal ?_
                  refine AW.seqR ?_
                  refine Chain.runK [] 1 fun K hK => ?_; simp; refine hK _ _ ?_; clear hK K
                  refine Chain.sub (S' := mk 234 [] [(2, .d (.sl (a2.map cS))), (9, .ptr 50 0 0), (11, .mref 53), (14, .ref 183 0 l384.length), (17, .d (.lit (.string r611))), (18, .d (.lit (.int .i64 r612))), (21, .d (.lit (.int .i64 v690))), (22, .d (.lit (.int .i64 4))), (25, .d (.lit (.bool v691))), (119, .d (.sl (a1.map (cL (cI .i64))))), (120, .d (.lit (.int .i64 (a1.length : Int)))), (121, .d (.lit (.int .i64 v385)))] [(50, some (.box [.ref 6000 0 l688.length, .ref 6001 0 l689.length])), (53, some (.mp .string (encM MKey.sk (vI .i64) m383))), (183, some (.arr 32 1 (l384.map (cM .string false MKey.sk (cI .i64))))), (6000, some (.arr 30 2 (l688.map cS30))), (6001, some (.arr 22 1 (l689.map (cL cS30))))]) Sub.tt ?_
                  refine Chain.nil ?_
                  replace h := bsome h; obtain ⟨v696, hj, h⟩ := h
                  refine AW.cutR (mk 234 [] [(2, .d (.sl (a2.map cS))), (9, .ptr 50 0 0), (11, .mref 53), (14, .ref 183 0 l384.length), (17, .d (.lit (.string r611))), (18, .d (.lit (.int .i64 r612))), (21, .d (.lit (.int .i64 v690))), (22, .d (.lit (.int .i64 4))), (25, .d (.lit (.bool v691))), (119, .d (.sl (a1.map (cL (cI .i64))))), (120, .d (.lit (.int .i64 (a1.length : Int)))), (121, .d (.lit (.int .i64 v385))), (208, .d (.lit (.bool v696)))] [(50, some (.box [.ref 6000 0 l688.length, .ref 6001 0 l689.length])), (53, some (.mp .string (encM MKey.sk (vI .i64) m383))), (183, some (.arr 32 1 (l384.map (cM .string false MKey.sk (cI .i64))))), (6000, some (.arr 30 2 (l688.map cS30))), (6001, some (.arr 22 1 (l689.map (cL cS30))))]) ?_ ?_
                  ·clear h; have h := hj; clear hj
                   refine Chain.runK [] 3 fun K hK => ?_; simp; refine hK _ _ ?_; clear hK K
                   refine Chain.sub (S' := mk 234 [] [(2, .d (.sl (a2.map cS))), (9, .ptr 50 0 0), (11, .mref 53), (14, .ref 183 0 l384.length), (17, .d (.lit (.string r611))), (18, .d (.lit (.int .i64 r612))), (21, .d (.lit (.int .i64 v690))), (22, .d (.lit (.int .i64 4))), (25, .d (.lit (.bool v691))), (119, .d (.sl (a1.map (cL (cI .i64))))), (120, .d (.lit (.int .i64 (a1.length : Int)))), (121, .d (.lit (.int .i64 v385))), (203, .d (.lit (.bool (decide (r612 ≥ 1)))))] [(50, some (.box [.ref 6000 0 l688.length, .ref 6001 0 l689.length])), (53, some (.mp .string (encM MKey.sk (vI .i64) m383))), (183, some (.arr 32 1 (l384.map (cM .string false MKey.sk (cI .i64))))), (6000, some (.arr 30 2 (l688.map cS30))), (6001, some (.arr 22 1 (l689.map (cL cS30))))]) Sub.tt ?_
                   replace h := isome h; rcases h with ⟨c697, h⟩ | ⟨c697, h⟩
                   ·have c697_ : decide (r612 ≥ 1) = true := decide_eq_true c697
                    refine Chain.sub (Sub.bool 203 (b := decide (r612 ≥ 1)) rfl c697_) ?_
                    refine Chain.sub (S' := mk 234 [] [(2, .d (.sl (a2.map cS))), (9, .ptr 50 0 0), (11, .mref 53), (14, .ref 183 0 l384.length), (17, .d (.lit (.string r611))), (18, .d (.lit (.int .i64 r612))), (21, .d (.lit (.int .i64 v690))), (22, .d (.lit (.int .i64 4))), (25, .d (.lit (.bool v691))), (119, .d (.sl (a1.map (cL (cI .i64))))), (120, .d (.lit (.int .i64 (a1.length : Int)))), (121, .d (.lit (.int .i64 v385))), (203, .d (.lit (.bool true)))] [(50, some (.box [.ref 6000 0 l688.length, .ref 6001 0 l689.length])), (53, some (.mp .string (encM MKey.sk (vI .i64) m383))), (183, some (.arr 32 1 (l384.map (cM .string false MKey.sk (cI .i64))))), (6000, some (.arr 30 2 (l688.map cS30))), (6001, some (.arr 22 1 (l689.map (cL cS30))))]) (by simp; exact Sub.table (by simp) (by simp)) ?_
                    refine Chain.runK [] 5 fun K hK => ?_; simp; refine hK _ _ ?_; clear hK K
                    refine Chain.sub (S' := mk 234 [] [(2, .d (.sl (a2.map cS))), (9, .ptr 50 0 0), (11, .mref 53), (14, .ref 183 0 l384.length), (17, .d (.lit (.string r611))), (18, .d (.lit (.int .i64 r612))), (21, .d (.lit (.int .i64 v690))), (22, .d (.lit (.int .i64 4))), (25, .d (.lit (.bool v691))), (119, .d (.sl (a1.map (cL (cI .i64))))), (120, .d (.lit (.int .i64 (a1.length : Int)))), (121, .d (.lit (.int .i64 v385))), (204, .d (.lit (.int .i64 r612))), (205, .ref 183 0 l384.length), (206, .d (.lit (.int .i64 (l384.length : Int)))), (207, .d (.lit (.bool (decide (r612 ≤ (l384.length : Int)))))), (208, .d (.lit (.bool (decide (r612 ≤ (l384.length : Int))))))] [(50, some (.box [.ref 6000 0 l688.length, .ref 6001 0 l689.length])), (53, some (.mp .string (encM MKey.sk (vI .i64) m383))), (183, some (.arr 32 1 (l384.map (cM .string false MKey.sk (cI .i64))))), (6000, some (.arr 30 2 (l688.map cS30))), (6001, some (.arr 22 1 (l689.map (cL cS30))))]) Sub.tt ?_
                    cases h
                    exact Chain.nil Sub.tt
                   ·have c697_ : decide (r612 ≥ 1) = false := decide_eq_false c697
                    refine Chain.sub (Sub.bool 203 (b := decide (r612 ≥ 1)) rfl c697_) ?_
                    refine Chain.sub (S' := mk 234 [] [(2, .d (.sl (a2.map cS))), (9, .ptr 50 0 0), (11, .mref 53), (14, .ref 183 0 l384.length), (17, .d (.lit (.string r611))), (18, .d (.lit (.int .i64 r612))), (21, .d (.lit (.int .i64 v690))), (22, .d (.lit (.int .i64 4))), (25, .d (.lit (.bool v691))), (119, .d (.sl (a1.map (cL (cI .i64))))), (120, .d (.lit (.int .i64 (a1.length : Int)))), (121, .d (.lit (.int .i64 v385))), (203, .d (.lit (.bool false)))] [(50, some (.box [.ref 6000 0 l688.length, .ref 6001 0 l689.length])), (53, some (.mp .string (encM MKey.sk (vI .i64) m383))), (183, some (.arr 32 1 (l384.map (cM .string false MKey.sk (cI .i64))))), (6000, some (.arr 30 2 (l688.map cS30))), (6001, some (.arr 22 1 (l689.map (cL cS30))))]) (by simp; exact Sub.table (by simp) (by simp)) ?_
                    refine Chain.runK [] 5 fun K hK => ?_; simp; refine hK _ _ ?_; clear hK K
                    refine Chain.sub (S' := mk 234 [] [(2, .d (.sl (a2.map cS))), (9, .ptr 50 0 0), (11, .mref 53), (14, .ref 183 0 l384.length), (17, .d (.lit (.string r611))), (18, .d (.lit (.int .i64 r612))), (21, .d (.lit (.int .i64 v690))), (22, .d (.lit (.int .i64 4))), (25, .d (.lit (.bool v691))), (119, .d (.sl (a1.map (cL (cI .i64))))), (120, .d (.lit (.int .i64 (a1.length : Int)))), (121, .d (.lit (.int .i64 v385))), (204, .tup []), (205, .tup []), (206, .tup []), (207, .tup []), (208, .d (.lit (.bool false)))] [(50, some (.box [.ref 6000 0 l688.length, .ref 6001 0 l689.length])), (53, some (.mp .string (encM MKey.sk (vI .i64) m383))), (183, some (.arr 32 1 (l384.map (cM .string false MKey.sk (cI .i64))))), (6000, some (.arr 30 2 (l688.map cS30))), (6001, some (.arr 22 1 (l689.map (cL cS30))))]) Sub.tt ?_
                    cases h
                    exact Chain.nil Sub.tt
                  ·clear hj
                   replace h := isome h; rcases h with ⟨c698, h⟩ | ⟨c698, h⟩
                   ·have c698_ : v696 = true := c698
                    refine AW.condT (b := v696) rfl c698_ ?_
                    refine AW.sub (Sub.bool 208 (b := v696) rfl c698_) ?_
                    refine AW.sub (S' := mk 234 [] [(2, .d (.sl (a2.map cS))), (9, .ptr 50 0 0), (11, .mref 53), (14, .ref 183 0 l384.length), (17, .d (.lit (.string r611))), (18, .d (.lit (.int .i64 r612))), (21, .d (.lit (.int .i64 v690))), (22, .d (.lit (.int .i64 4))), (25, .d (.lit (.bool v691))), (119, .d (.sl (a1.map (cL (cI .i64))))), (120, .d (.lit (.int .i64 (a1.length : Int)))), (121, .d (.lit (.int .i64 v385))), (208, .d (.lit (.bool true)))] [(50, some (.box [.ref 6000 0 l688.length, .ref 6001 0 l689.length])), (53, some (.mp .string (encM MKey.sk (vI .i64) m383))), (183, some (.arr 32 1 (l384.map (cM .string false MKey.sk (cI .i64))))), (6000, some (.arr 30 2 (l688.map cS30))), (6001, some (.arr 22 1 (l689.map (cL cS30))))]) (by simp; exact Sub.table (by simp) (by simp)) ?_
                    refine AW.seqR ?_
                    refine Chain.runK [] 1 fun K hK => ?_; simp; refine hK _ _ ?_; clear hK K
                    refine Chain.sub (S' := mk 234 [] [(2, .d (.sl (a2.map cS))), (9, .ptr 50 0 0), (11, .mref 53), (14, .ref 183 0 l384.length), (17, .d (.lit (.string r611))), (18, .d (.lit (.int .i64 r612))), (21, .d (.lit (.int .i64 v690))), (22, .d (.lit (.int .i64 0))), (25, .d (.lit (.bool v691))), (119, .d (.sl (a1.map (cL (cI .i64))))), (120, .d (.lit (.int .i64 (a1.length : Int)))), (121, .d (.lit (.int .i64 v385)))] [(50, some (.box [.ref 6000 0 l688.length, .ref 6001 0 l689.length])), (53, some (.mp .string (encM MKey.sk (vI .i64) m383))), (183, some (.arr 32 1 (l384.map (cM .string false MKey.sk (cI .i64))))), (6000, some (.arr 30 2 (l688.map cS30))), (6001, some (.arr 22 1 (l689.map (cL cS30))))]) Sub.tt ?_
                    refine Chain.nil ?_
                    refine AW.seqR ?_
                    refine Chain.runK [] 1 fun K hK => ?_; simp; refine hK _ _ ?_; clear hK K
                    refine Chain.sub (S' := mk 234 [] [(2, .d (.sl (a2.map cS))), (9, .ptr 50 0 0), (11, .mref 53), (14, .ref 183 0 l384.length), (17, .d (.lit (.string r611))), (18, .d (.lit (.int .i64 r612))), (21, .d (.lit (.int .i64 v690))), (22, .d (.lit (.int .i64 0))), (119, .d (.sl (a1.map (cL (cI .i64))))), (120, .d (.lit (.int .i64 (a1.length : Int)))), (121, .d (.lit (.int .i64 v385))), (209, .d (.lit (.bool v691)))] [(50, some (.box [.ref 6000 0 l688.length, .ref 6001 0 l689.length])), (53, some (.mp .string (encM MKey.sk (vI .i64) m383))), (183, some (.arr 32 1 (l384.map (cM .string false MKey.sk (cI .i64))))), (6000, some (.arr 30 2 (l688.map cS30))), (6001, some (.arr 22 1 (l689.map (cL cS30))))]) Sub.tt ?_
                    refine Chain.nil ?_
                    replace h := isome h; rcases h with ⟨c699, h⟩ | ⟨c699, h⟩
                    ·have c699_ : v691 = true := c699
                     refine AW.condT (b := v691) rfl c699_ ?_
                     refine AW.sub (Sub.bool 209 (b := v691) rfl c699_) ?_
                     refine AW.sub (S' := mk 234 [] [(2, .d (.sl (a2.map cS))), (9, .ptr 50 0 0), (11, .mref 53), (14, .ref 183 0 l384.length), (17, .d (.lit (.string r611))), (18, .d (.lit (.int .i64 r612))), (21, .d (.lit (.int .i64 v690))), (22, .d (.lit (.int .i64 0))), (119, .d (.sl (a1.map (cL (cI .i64))))), (120, .d (.lit (.int .i64 (a1.length : Int)))), (121, .d (.lit (.int .i64 v385))), (209, .d (.lit (.bool true)))] [(50, some (.box [.ref 6000 0 l688.length, .ref 6001 0 l689.length])), (53, some (.mp .string (encM MKey.sk (vI .i64) m383))), (183, some (.arr 32 1 (l384.map (cM .string false MKey.sk (cI .i64))))), (6000, some (.arr 30 2 (l688.map cS30))), (6001, some (.arr 22 1 (l689.map (cL cS30))))]) (by simp; exact Sub.table (by simp) (by simp)) ?_
                     replace h := bsome h; obtain ⟨v700, hv700, h⟩ := h
                     have hv700 := chkI_some hv700
                     replace h := bsome h; obtain ⟨x701, hx701, h⟩ := h
                     obtain ⟨k702, hx701k, hx701, hx701a, hx701b⟩ := idx_some hx701
                     replace h := bsome h; obtain ⟨n703, gn703, h⟩ := h
                     obtain ⟨hn703a, hn703⟩ := natI_some gn703
                     clear gn703
                     subst hn703a
                     refine AW.lastAnyS [[], [], [1], [0, 1, 2], [0, 1, 2, 3], [0, 1, 2, 3, 4], [], [], [6, 7], [0, 1, 2, 3, 4, 5], [0, 1, 2, 3, 4, 5, 6, 7, 8, 9]] (fun (b : Nat → Bool) => mk 234 [] [(2, .d (.sl (a2.map cS))), (9, .ptr 50 0 0), (11, (if b 9 then .mref 215 else .mref 53)), (14, (if b 10 then .ref 183 0 n703 else .ref 183 0 l384.length)), (17, .d (.lit (.string r611))), (18, .d (.lit (.int .i64 (n703 : Int)))), (21, .d (.lit (.int .i64 v690))), (22, .d (.lit (.int .i64 0))), (119, .d (.sl (a1.map (cL (cI .i64))))), (120, .d (.lit (.int .i64 (a1.length : Int)))), (121, .d (.lit (.int .i64 v385))), (210, (if b 0 then .ref 183 0 l384.length else .junk)), (211, (if b 1 then .d (.lit (.int .i64 (n703 : Int))) else .junk)), (212, (if b 2 then .d (.lit (.int .i64 v700)) else .junk)), (213, (if b 3 then .ptr 183 k702 0 else .junk)), (214, (if b 4 then .d (.mpi .string false (x701.map (MKey.sk ∘ Prod.fst)) (x701.map ((cI .i64) ∘ Prod.snd))) else .junk)), (215, (if b 5 then .mref 215 else .junk)), (216, (if b 6 then .ref 183 0 l384.length else .junk)), (217, (if b 7 then .d (.lit (.int .i64 (n703 : Int))) else .junk)), (218, (if b 8 then .ref 183 0 n703 else .junk))] [(50, some (.box [.ref 6000 0 l688.length, .ref 6001 0 l689.length])), (53, some (.mp .string (encM MKey.sk (vI .i64) m383))), (183, some (.arr 32 1 (l384.map (cM .string false MKey.sk (cI .i64))))), (215, (if b 5 then some (.mp .string (encM MKey.sk (vI .i64) x701)) else none)), (6000, some (.arr 30 2 (l688.map cS30))), (6001, some (.arr 22 1 (l689.map (cL cS30))))]) (mk 234 [] [(2, .d (.sl (a2.map cS))), (9, .ptr 50 0 0), (11, .mref 215), (14, .ref 183 0 n703), (17, .d (.lit (.string r611))), (21, .d (.lit (.int .i64 v690))), (22, .d (.lit (.int .i64 0))), (119, .d (.sl (a1.map (cL (cI .i64))))), (120, .d (.lit (.int .i64 (a1.length : Int)))), (121, .d (.lit (.int .i64 v385)))] [(50, some (.box [.ref 6000 0 l688.length, .ref 6001 0 l689.length])), (183, some (.arr 32 1 (l384.map (cM .string false MKey.sk (cI .i64))))), (215, some (.mp .string (encM MKey.sk (vI .i64) x701))), (6000, some (.arr 30 2 (l688.map cS30))), (6001, some (.arr 22 1 (l689.map (cL cS30))))]) (by kernel_rfl) (by kernel_rfl) Sub.tt (Steps.cons ?_ (Steps.cons ?_ (Steps.cons ?_ (Steps.cons ?_ (Steps.cons ?_ (Steps.cons ?_ (Steps.cons ?_ (Steps.cons ?_ (Steps.cons ?_ (Steps.cons ?_ (Steps.cons ?_ (Steps.nil)))))))))))) ?_ ?_
                     ·intro b h0 ha hd
                      have f3 : b 3 = false := hd 3 (by decide)
                      have f4 : b 4 = false := hd 4 (by decide)
                      have f5 : b 5 = false := hd 5 (by decide)
                      have f9 : b 9 = false := hd 9 (by decide)
                      have f10 : b 10 = false := hd 10 (by decide)
                      refine Chain.runK [] 1 fun K hK => ?_; simp [h0, f3, f4, f5, f9, f10]; refine hK _ _ ?_; clear hK K
                      exact Chain.nil (Sub.table (by simp [f3, f4, f5, f9, f10]) (by simp [f5]))
                     ·intro b h0 ha hd
                      have f2 : b 2 = false := hd 2 (by decide)
                      have f3 : b 3 = false := hd 3 (by decide)
                      have f4 : b 4 = false := hd 4 (by decide)
                      have f5 : b 5 = false := hd 5 (by decide)
                      have f9 : b 9 = false := hd 9 (by decide)
                      have f10 : b 10 = false := hd 10 (by decide)
                      refine Chain.runK [] 1 fun K hK => ?_; simp [h0, f2, f3, f4, f5, f9, f10]; refine hK _ _ ?_; clear hK K
                      exact Chain.nil (Sub.table (by simp [f2, f3, f4, f5, f9, f10]) (by simp [f5]))
                     ·intro b h0 ha hd
                      have t1 : b 1 = true := ha 1 (by decide)
                      have f3 : b 3 = false := hd 3 (by decide)
                      have f4 : b 4 = false := hd 4 (by decide)
                      have f5 : b 5 = false := hd 5 (by decide)
                      have f9 : b 9 = false := hd 9 (by decide)
                      have f10 : b 10 = false := hd 10 (by decide)
                      refine Chain.runK [] 1 fun K hK => ?_; simp [h0, t1, f3, f4, f5, f9, f10, hv700]; refine hK _ _ ?_; clear hK K
                      exact Chain.nil (Sub.table (by simp [t1, f3, f4, f5, f9, f10]) (by simp [f5]))
                     ·intro b h0 ha hd
                      have t0 : b 0 = true := ha 0 (by decide)
                      have t1 : b 1 = true := ha 1 (by decide)
                      have t2 : b 2 = true := ha 2 (by decide)
                      have f4 : b 4 = false := hd 4 (by decide)
                      have f5 : b 5 = false := hd 5 (by decide)
                      have f9 : b 9 = false := hd 9 (by decide)
                      have f10 : b 10 = false := hd 10 (by decide)
                      refine Chain.runK [] 1 fun K hK => ?_; simp [h0, t0, t1, t2, f4, f5, f9, f10, hx701k, hx701a, hx701b]; refine hK _ _ ?_; clear hK K
                      exact Chain.nil (Sub.table (by simp [t0, t1, t2, f4, f5, f9, f10]) (by simp [f5]))
                     ·intro b h0 ha hd
                      have t0 : b 0 = true := ha 0 (by decide)
                      have t1 : b 1 = true := ha 1 (by decide)
                      have t2 : b 2 = true := ha 2 (by decide)
                      have t3 : b 3 = true := ha 3 (by decide)
                      have f5 : b 5 = false := hd 5 (by decide)
                      have f9 : b 9 = false := hd 9 (by decide)
                      have f10 : b 10 = false := hd 10 (by decide)
                      refine Chain.runK [] 1 fun K hK => ?_; simp [h0, t0, t1, t2, t3, f5, f9, f10, hx701]; refine hK _ _ ?_; clear hK K
                      exact Chain.nil (Sub.table (by simp [t0, t1, t2, t3, f5, f9, f10]) (by simp [f5]))
                     ·intro b h0 ha hd
                      have t0 : b 0 = true := ha 0 (by decide)
                      have t1 : b 1 = true := ha 1 (by decide)
                      have t2 : b 2 = true := ha 2 (by decide)
                      have t3 : b 3 = true := ha 3 (by decide)
                      have t4 : b 4 = true := ha 4 (by decide)
                      have f9 : b 9 = false := hd 9 (by decide)
                      have f10 : b 10 = false := hd 10 (by decide)
                      simp only [h0, t0, t1, t2, t3, t4, f9, f10, if_true, if_false, Bool.false_eq_true]
                      refine Chain.callMo (d := 215) (clone_om x701) (by simp) rfl rfl (by simp <;> rfl) (by simp <;> rfl) ent10 (by simp) (flatM_vI _ _ _) ?_
                      exact Chain.nil (by simp [t0, t1, t2, t3, t4, f9, f10]; exact Sub.table (by simp) (by simp))
                     ·intro b h0 ha hd
                      have f8 : b 8 = false := hd 8 (by decide)
                      have f10 : b 10 = false := hd 10 (by decide)
                      refine Chain.runK [] 1 fun K hK => ?_; simp [h0, f8, f10]; refine hK _ _ ?_; clear hK K
                      exact Chain.nil (Sub.table (by simp [f8, f10]) (by simp))
                     ·intro b h0 ha hd
                      have f8 : b 8 = false := hd 8 (by decide)
                      have f10 : b 10 = false := hd 10 (by decide)
                      refine Chain.runK [] 1 fun K hK => ?_; simp [h0, f8, f10]; refine hK _ _ ?_; clear hK K
                      exact Chain.nil (Sub.table (by simp [f8, f10]) (by simp))
                     ·intro b h0 ha hd
                      have t6 : b 6 = true := ha 6 (by decide)
                      have t7 : b 7 = true := ha 7 (by decide)
                      have f10 : b 10 = false := hd 10 (by decide)
                      refine Chain.runK [] 1 fun K hK => ?_; simp [h0, t6, t7, f10, hn703]; refine hK _ _ ?_; clear hK K
                      exact Chain.nil (Sub.table (by simp [t6, t7, f10]) (by simp))
                     ·intro b h0 ha hd
                      have t0 : b 0 = true := ha 0 (by decide)
                      have t1 : b 1 = true := ha 1 (by decide)
                      have t2 : b 2 = true := ha 2 (by decide)
                      have t3 : b 3 = true := ha 3 (by decide)
                      have t4 : b 4 = true := ha 4 (by decide)
                      have t5 : b 5 = true := ha 5 (by decide)
                      have f10 : b 10 = false := hd 10 (by decide)
                      refine Chain.runK [] 1 fun K hK => ?_; simp [h0, t0, t1, t2, t3, t4, t5, f10]; refine hK _ _ ?_; clear hK K
                      exact Chain.nil (Sub.table (by simp [t0, t1, t2, t3, t4, t5, f10]) (by simp [t5]))
                     ·intro b h0 ha hd
                      have t0 : b 0 = true := ha 0 (by decide)
                      have t1 : b 1 = true := ha 1 (by decide)
                      have t2 : b 2 = true := ha 2 (by decide)
                      have t3 : b 3 = true := ha 3 (by decide)
                      have t4 : b 4 = true := ha 4 (by decide)
                      have t5 : b 5 = true := ha 5 (by decide)
                      have t6 : b 6 = true := ha 6 (by decide)
                      have t7 : b 7 = true := ha 7 (by decide)
                      have t8 : b 8 = true := ha 8 (by decide)
                      have t9 : b 9 = true := ha 9 (by decide)
                      refine Chain.runK [] 1 fun K hK => ?_; simp [h0, t0, t1, t2, t3, t4, t5, t6, t7, t8, t9]; refine hK _ _ ?_; clear hK K
                      exact Chain.nil (Sub.table (by simp [t0, t1, t2, t3, t4, t5, t6, t7, t8, t9]) (by simp [t5]))
                     ·intro b hb
                      have t0 := hb 0 (by decide)
                      have t1 := hb 1 (by decide)
                      have t2 := hb 2 (by decide)
                      have t3 := hb 3 (by decide)
                      have t4 := hb 4 (by decide)
                      have t5 := hb 5 (by decide)
                      have t6 := hb 6 (by decide)
                      have t7 := hb 7 (by decide)
                      have t8 := hb 8 (by decide)
                      have t9 := hb 9 (by decide)
                      have t10 := hb 10 (by decide)
                      exact Sub.table (by simp [t0, t1, t2, t3, t4, t5, t6, t7, t8, t9, t10]) (by simp [t5])
                     ·skip
                      replace h := lsome h; obtain ⟨l704, gl704, h⟩ := h
                      have hl704k : n703 = l704.length := by rw [← gl704, List.length_take]; omega
                      subst hl704k
                      have hl704 : (l384.map (cM .string false MKey.sk (cI .i64))).take l704.length = l704.map (cM .string false MKey.sk (cI .i64)) := by rw [← List.map_take, gl704]
                      clear gl704
                      cases h
                      refine PostJ.next ?_
                      exact (Sub.trans (Sub.trans (show Sub _ (mk 234 [] [(2, .d (.sl (a2.map cS))), (9, .ptr 50 0 0), (11, .mref 215), (14, .ref 183 0 l704.length), (17, .d (.lit (.string r611))), (21, .d (.lit (.int .i64 v690))), (22, .d (.lit (.int .i64 0))), (119, .d (.sl (a1.map (cL (cI .i64))))), (120, .d (.lit (.int .i64 (a1.length : Int)))), (121, .d (.lit (.int .i64 v385)))] [(50, some (.box [.ref 6000 0 l688.length, .ref 6001 0 l689.length])), (183, some (.arr 32 1 (l704.map (cM .string false MKey.sk (cI .i64))))), (215, some (.mp .string (encM MKey.sk (vI .i64) x701))), (6000, some (.arr 30 2 (l688.map cS30))), (6001, some (.arr 22 1 (l689.map (cL cS30))))]) from (Sub.trans (Sub.cut 183 l704.length rfl) (by simp [hl704]; exact Sub.table (by simp) (by simp)))) (show Sub _ (mk 234 [] [(2, .d (.sl (a2.map cS))), (9, .ptr 50 0 0), (11, .mref 53), (14, .ref 183 0 l704.length), (17, .d (.lit (.string r611))), (21, .d (.lit (.int .i64 v690))), (22, .d (.lit (.int .i64 0))), (119, .d (.sl (a1.map (cL (cI .i64))))), (120, .d (.lit (.int .i64 (a1.length : Int)))), (121, .d (.lit (.int .i64 v385)))] [(50, some (.box [.ref 6000 0 l688.length, .ref 6001 0 l689.length])), (53, some (.mp .string (encM MKey.sk (vI .i64) x701))), (183, some (.arr 32 1 (l704.map (cM .string false MKey.sk (cI .i64))))), (6000, some (.arr 30 2 (l688.map cS30))), (6001, some (.arr 22 1 (l689.map (cL cS30))))]) from (Sub.names [(50, 50), (183, 183), (215, 53), (6000, 6000), (6001, 6001)] (by simp) (by simp) (by simp [back]) (by simp [V.rnm, lk2]) (by simp [back, Blk.rnm, V.rnm, rnmL, lk2])))) Sub.tt)
                    ·have c699_ : v691 = false := Bool.eq_false_iff.2 c699
                     refine AW.condF (b := v691) rfl c699_ ?_
                     refine AW.sub (Sub.bool 209 (b := v691) rfl c699_) ?_
                     refine AW.sub (S' := mk 234 [] [(2, .d (.sl (a2.map cS))), (9, .ptr 50 0 0), (11, .mref 53), (14, .ref 183 0 l384.length), (17, .d (.lit (.string r611))), (18, .d (.lit (.int .i64 r612))), (21, .d (.lit (.int .i64 v690))), (22, .d (.lit (.int .i64 0))), (119, .d (.sl (a1.map (cL (cI .i64))))), (120, .d (.lit (.int .i64 (a1.length : Int)))), (121, .d (.lit (.int .i64 v385))), (209, .d (.lit (.bool false)))] [(50, some (.box [.ref 6000 0 l688.length, .ref 6001 0 l689.length])), (53, some (.mp .string (encM MKey.sk (vI .i64) m383))), (183, some (.arr 32 1 (l384.map (cM .string false MKey.sk (cI .i64))))), (6000, some (.arr 30 2 (l688.map cS30))), (6001, some (.arr 22 1 (l689.map (cL cS30))))]) (by simp; exact Sub.table (by simp) (by simp)) ?_
                     refine AW.region ?_
                     replace h := bsome h; obtain ⟨v705, hv705, h⟩ := h
                     have hv705 := chkI_some hv705
                     replace h := bsome h; obtain ⟨n706, gn706, h⟩ := h
                     obtain ⟨hn706a, hn706⟩ := natI_some gn706
                     clear gn706
                     subst hn706a
                     refine Chain.runK [] 4 fun K hK => ?_; simp [hv705, hn706]; refine hK _ _ ?_; clear hK K
                     refine Chain.sub (S' := mk 234 [] [(2, .d (.sl (a2.map cS))), (9, .ptr 50 0 0), (11, .mref 53), (17, .d (.lit (.string r611))), (21, .d (.lit (.int .i64 v690))), (22, .d (.lit (.int .i64 0))), (119, .d (.sl (a1.map (cL (cI .i64))))), (120, .d (.lit (.int .i64 (a1.length : Int)))), (121, .d (.lit (.int .i64 v385))), (222, .ref 183 0 n706)] [(50, some (.box [.ref 6000 0 l688.length, .ref 6001 0 l689.length])), (53, some (.mp .string (encM MKey.sk (vI .i64) m383))), (183, some (.arr 32 1 (l384.map (cM .string false MKey.sk (cI .i64))))), (6000, some (.arr 30 2 (l688.map cS30))), (6001, some (.arr 22 1 (l689.map (cL cS30))))]) Sub.tt ?_
                     replace h := lsome h; obtain ⟨l707, gl707, h⟩ := h
                     have hl707k : n706 = l707.length := by rw [← gl707, List.length_take]; omega
                     subst hl707k
                     have hl707 : (l384.map (cM .string false MKey.sk (cI .i64))).take l707.length = l707.map (cM .string false MKey.sk (cI .i64)) := by rw [← List.map_take, gl707]
                     clear gl707
                     refine Chain.sub (Sub.cut 183 l707.length rfl) ?_
                     refine Chain.sub (S' := mk 234 [] [(2, .d (.sl (a2.map cS))), (9, .ptr 50 0 0), (11, .mref 53), (17, .d (.lit (.string r611))), (21, .d (.lit (.int .i64 v690))), (22, .d (.lit (.int .i64 0))), (119, .d (.sl (a1.map (cL (cI .i64))))), (120, .d (.lit (.int .i64 (a1.length : Int)))), (121, .d (.lit (.int .i64 v385))), (222, .ref 183 0 l707.length)] [(50, some (.box [.ref 6000 0 l688.length, .ref 6001 0 l689.length])), (53, some (.mp .string (encM MKey.sk (vI .i64) m383))), (183, some (.arr 32 1 (l707.map (cM .string false MKey.sk (cI .i64))))), (6000, some (.arr 30 2 (l688.map cS30))), (6001, some (.arr 22 1 (l689.map (cL cS30))))]) (by simp [hl707]; exact Sub.table (by simp) (by simp)) ?_
                     refine Chain.runK [] 1 fun K hK => ?_; simp; refine hK _ _ ?_; clear hK K
                     refine Chain.sub (S' := mk 234 [] [(2, .d (.sl (a2.map cS))), (9, .ptr 50 0 0), (11, .mref 53), (14, .ref 183 0 l707.length), (17, .d (.lit (.string r611))), (21, .d (.lit (.int .i64 v690))), (22, .d (.lit (.int .i64 0))), (119, .d (.sl (a1.map (cL (cI .i64))))), (120, .d (.lit (.int .i64 (a1.length : Int)))), (121, .d (.lit (.int .i64 v385)))] [(50, some (.box [.ref 6000 0 l688.length, .ref 6001 0 l689.length])), (53, some (.mp .string (encM MKey.sk (vI .i64) m383))), (183, some (.arr 32 1 (l707.map (cM .string false MKey.sk (cI .i64))))), (6000, some (.arr 30 2 (l688.map cS30))), (6001, some (.arr 22 1 (l689.map (cL cS30))))]) Sub.tt ?_
                     refine Chain.nil ?_
                     cases h
                     refine PostJ.next ?_
                     exact Sub.tt
                   ·have c698_ : v696 = false := Bool.eq_false_iff.2 c698
                    refine AW.condF (b := v696) rfl c698_ ?_
                    refine AW.sub (Sub.bool 208 (b := v696) rfl c698_) ?_
                    refine AW.sub (S' := mk 234 [] [(2, .d (.sl (a2.map cS))), (9, .ptr 50 0 0), (11, .mref 53), (14, .ref 183 0 l384.length), (17, .d (.lit (.string r611))), (18, .d (.lit (.int .i64 r612))), (21, .d (.lit (.int .i64 v690))), (22, .d (.lit (.int .i64 4))), (25, .d (.lit (.bool v691))), (119, .d (.sl (a1.map (cL (cI .i64))))), (120, .d (.lit (.int .i64 (a1.length : Int)))), (121, .d (.lit (.int .i64 v385))), (208, .d (.lit (.bool false)))] [(50, some (.box [.ref 6000 0 l688.length, .ref 6001 0 l689.length])), (53, some (.mp .string (encM MKey.sk (vI .i64) m383))), (183, some (.arr 32 1 (l384.map (cM .string false MKey.sk (cI .i64))))), (6000, some (.arr 30 2 (l688.map cS30))), (6001, some (.arr 22 1 (l689.map (cL cS30))))]) (by simp; exact Sub.table (by simp) (by simp)) ?_
                    refine AW.skip ?_
                    cases h
                    refine PostJ.next ?_
                    exact Sub.tt
                ·have c683_ : v681 = false := Bool.eq_false_iff.2 c683
                 refine AW.condF (b := v681) rfl c683_ ?_
                 refine AW.sub (Sub.bool 188 (b := v681) rfl c683_) ?_
                 refine AW.sub (S' := mk 234 [] [(2, .d (.sl (a2.map cS))), (9, .ptr 50 0 0), (11, .mref 53), (14, .ref 183 0 l384.length), (16, .d (.sl (x608.map (cI .i64)))), (17, .d (.lit (.string r611))), (18, .d (.lit (.int .i64 r612))), (21, .d (.lit (.int .i64 0))), (22, .d (.lit (.int .i64 0))), (119, .d (.sl (a1.map (cL (cI .i64))))), (120, .d (.lit (.int .i64 (a1.length : Int)))), (121, .d (.lit (.int .i64 v385))), (188, .d (.lit (.bool false)))] [(50, some (.box [.ref 6000 0 l381.length, .ref 6001 0 l382.length])), (53, some (.mp .string (encM MKey.sk (vI .i64) m383))), (183, some (.arr 32 1 (l384.map (cM .string false MKey.sk (cI .i64))))), (6000, some (.arr 30 2 (l381.map cS30))), (6001, some (.arr 22 1 (l382.map (cL cS30))))]) (by simp; exact Sub.table (by simp) (by simp)) ?_
                 refine AW.skip ?_
                 cases h
                 refine PostJ.next ?_
                 exact Sub.tt
           ·rintro ⟨l659, l660, m661, l662, v663, v664⟩ h
            dsimp only at h ⊢
            refine blockQ.normal ?_
            refine thenQ_normal ?_
            replace h := bsome h; obtain ⟨v710, hj, h⟩ := h
            refine AW.cutR (mk 234 [] [(2, .d (.sl (a2.map cS))), (9, .ptr 50 0 0), (11, .mref 53), (14, .ref 183 0 l662.length), (119, .d (.sl (a1.map (cL (cI .i64))))), (120, .d (.lit (.int .i64 (a1.length : Int)))), (121, .d (.lit (.int .i64 v385))), (232, .d (.lit (.bool v710)))] [(50, some (.box [.ref 6000 0 l659.length, .ref 6001 0 l660.length])), (53, some (.mp .string (encM MKey.sk (vI .i64) m661))), (183, some (.arr 32 1 (l662.map (cM .string false MKey.sk (cI .i64))))), (6000, some (.arr 30 2 (l659.map cS30))), (6001, some (.arr 22 1 (l660.map (cL cS30))))]) ?_ ?_
            ·clear h; have h := hj; clear hj
             refine Chain.runK [] 4 fun K hK => ?_; simp; refine hK _ _ ?_; clear hK K
             refine Chain.sub (S' := mk 234 [] [(2, .d (.sl (a2.map cS))), (9, .ptr 50 0 0), (11, .mref 53), (14, .ref 183 0 l662.length), (17, .d (.lit (.string r611))), (119, .d (.sl (a1.map (cL (cI .i64))))), (120, .d (.lit (.int .i64 (a1.length : Int)))), (121, .d (.lit (.int .i64 v385))), (226, .d (.lit (.bool (v663 != v664))))] [(50, some (.box [.ref 6000 0 l659.length, .ref 6001 0 l660.length])), (53, some (.mp .string (encM MKey.sk (vI .i64) m661))), (183, some (.arr 32 1 (l662.map (cM .string false MKey.sk (cI .i64))))), (6000, some (.arr 30 2 (l659.map cS30))), (6001, some (.arr 22 1 (l660.map (cL cS30))))]) Sub.tt ?_
             replace h := isome h; rcases h with ⟨c711, h⟩ | ⟨c711, h⟩
             ·have c711_ : (v663 != v664) = true := c711
              refine Chain.sub (Sub.bool 226 (b := (v663 != v664)) rfl c711_) ?_
              refine Chain.sub (S' := mk 234 [] [(2, .d (.sl (a2.map cS))), (9, .ptr 50 0 0), (11, .mref 53), (14, .ref 183 0 l662.length), (17, .d (.lit (.string r611))), (119, .d (.sl (a1.map (cL (cI .i64))))), (120, .d (.lit (.int .i64 (a1.length : Int)))), (121, .d (.lit (.int .i64 v385))), (226, .d (.lit (.bool true)))] [(50, some (.box [.ref 6000 0 l659.length, .ref 6001 0 l660.length])), (53, some (.mp .string (encM MKey.sk (vI .i64) m661))), (183, some (.arr 32 1 (l662.map (cM .string false MKey.sk (cI .i64))))), (6000, some (.arr 30 2 (l659.map cS30))), (6001, some (.arr 22 1 (l660.map (cL cS30))))]) (by simp; exact Sub.table (by simp) (by simp)) ?_
              refine Chain.runK [] 6 fun K hK => ?_; simp; refine hK _ _ ?_; clear hK K
              refine Chain.sub (S' := mk 234 [] [(2, .d (.sl (a2.map cS))), (9, .ptr 50 0 0), (11, .mref 53), (14, .ref 183 0 l662.length), (119, .d (.sl (a1.map (cL (cI .i64))))), (120, .d (.lit (.int .i64 (a1.length : Int)))), (121, .d (.lit (.int .i64 v385))), (227, .tup []), (228, .tup []), (229, .tup []), (230, .tup []), (231, .tup []), (232, .d (.lit (.bool true)))] [(50, some (.box [.ref 6000 0 l659.length, .ref 6001 0 l660.length])), (53, some (.mp .string (encM MKey.sk (vI .i64) m661))), (183, some (.arr 32 1 (l662.map (cM .string false MKey.sk (cI .i64))))), (6000, some (.arr 30 2 (l659.map cS30))), (6001, some (.arr 22 1 (l660.map (cL cS30))))]) Sub.tt ?_
              cases h
              exact Chain.nil Sub.tt
             ·have c711_ : (v663 != v664) = false := Bool.eq_false_iff.2 c711
              refine Chain.sub (Sub.bool 226 (b := (v663 != v664)) rfl c711_) ?_
              refine Chain.sub (S' := mk 234 [] [(2, .d (.sl (a2.map cS))), (9, .ptr 50 0 0), (11, .mref 53), (14, .ref 183 0 l662.length), (17, .d (.lit (.string r611))), (119, .d (.sl (a1.map (cL (cI .i64))))), (120, .d (.lit (.int .i64 (a1.length : Int)))), (121, .d (.lit (.int .i64 v385))), (226, .d (.lit (.bool false)))] [(50, some (.box [.ref 6000 0 l659.length, .ref 6001 0 l660.length])), (53, some (.mp .string (encM MKey.sk (vI .i64) m661))), (183, some (.arr 32 1 (l662.map (cM .string false MKey.sk (cI .i64))))), (6000, some (.arr 30 2 (l659.map cS30))), (6001, some (.arr 22 1 (l660.map (cL cS30))))]) (by simp; exact Sub.table (by simp) (by simp)) ?_
              refine Chain.runK [] 3 fun K hK => ?_; simp; refine hK _ _ ?_; clear hK K
              refine Chain.sub (S' := mk 234 [] [(2, .d (.sl (a2.map cS))), (9, .ptr 50 0 0), (11, .mref 53), (14, .ref 183 0 l662.length), (119, .d (.sl (a1.map (cL (cI .i64))))), (120, .d (.lit (.int .i64 (a1.length : Int)))), (121, .d (.lit (.int .i64 v385))), (226, .d (.lit (.bool false))), (227, .ptr 50 0 0), (228, .mref 53), (229, .d (.lit (.string r611)))] [(50, some (.box [.ref 6000 0 l659.length, .ref 6001 0 l660.length])), (53, some (.mp .string (encM MKey.sk (vI .i64) m661))), (183, some (.arr 32 1 (l662.map (cM .string false MKey.sk (cI .i64))))), (6000, some (.arr 30 2 (l659.map cS30))), (6001, some (.arr 22 1 (l660.map (cL cS30))))]) Sub.tt ?_
              replace h := bsome h; obtain ⟨r712, hr712, h⟩ := h
              refine Chain.callL (d := 230) (p13 N (S47.mk l659 l660) m661 r611 r712 hr712) (by simp) rfl rfl (by simp <;> rfl) (by simp <;> rfl) ent13 (by simp <;> rfl) ?_
              refine Chain.sub (S' := mk 234 [] [(2, .d (.sl (a2.map cS))), (9, .ptr 50 0 0), (11, .mref 53), (14, .ref 183 0 l662.length), (119, .d (.sl (a1.map (cL (cI .i64))))), (120, .d (.lit (.int .i64 (a1.length : Int)))), (121, .d (.lit (.int .i64 v385))), (226, .d (.lit (.bool false))), (227, .ptr 50 0 0), (228, .mref 53), (229, .d (.lit (.string r611))), (230, .d (.lit (.bool r712)))] [(50, some (.box [.ref 6000 0 l659.length, .ref 6001 0 l660.length])), (53, some (.mp .string (encM MKey.sk (vI .i64) m661))), (183, some (.arr 32 1 (l662.map (cM .string false MKey.sk (cI .i64))))), (6000, some (.arr 30 2 (l659.map cS30))), (6001, some (.arr 22 1 (l660.map (cL cS30))))]) (by simp; exact Sub.table (by simp) (by simp)) ?_
              refine Chain.runK [] 2 fun K hK => ?_; simp; refine hK _ _ ?_; clear hK K
              refine Chain.sub (S' := mk 234 [] [(2, .d (.sl (a2.map cS))), (9, .ptr 50 0 0), (11, .mref 53), (14, .ref 183 0 l662.length), (119, .d (.sl (a1.map (cL (cI .i64))))), (120, .d (.lit (.int .i64 (a1.length : Int)))), (121, .d (.lit (.int .i64 v385))), (227, .ptr 50 0 0), (228, .mref 53), (229, .d (.lit (.string r611))), (230, .d (.lit (.bool r712))), (231, .d (.lit (.bool (!r712)))), (232, .d (.lit (.bool (!r712))))] [(50, some (.box [.ref 6000 0 l659.length, .ref 6001 0 l660.length])), (53, some (.mp .string (encM MKey.sk (vI .i64) m661))), (183, some (.arr 32 1 (l662.map (cM .string false MKey.sk (cI .i64))))), (6000, some (.arr 30 2 (l659.map cS30))), (6001, some (.arr 22 1 (l660.map (cL cS30))))]) Sub.tt ?_
              cases h
              exact Chain.nil Sub.tt
            ·clear hj
             replace h := isome h; rcases h with ⟨c713, h⟩ | ⟨c713, h⟩
             ·have c713_ : v710 = true := c713
              refine AW.condT (b := v710) rfl c713_ ?_
              refine AW.sub (Sub.bool 232 (b := v710) rfl c713_) ?_
              refine AW.sub (S' := mk 234 [] [(2, .d (.sl (a2.map cS))), (9, .ptr 50 0 0), (11, .mref 53), (14, .ref 183 0 l662.length), (119, .d (.sl (a1.map (cL (cI .i64))))), (120, .d (.lit (.int .i64 (a1.length : Int)))), (121, .d (.lit (.int .i64 v385))), (232, .d (.lit (.bool true)))] [(50, some (.box [.ref 6000 0 l659.length, .ref 6001 0 l660.length])), (53, some (.mp .string (encM MKey.sk (vI .i64) m661))), (183, some (.arr 32 1 (l662.map (cM .string false MKey.sk (cI .i64))))), (6000, some (.arr 30 2 (l659.map cS30))), (6001, some (.arr 22 1 (l660.map (cL cS30))))]) (by simp; exact Sub.table (by simp) (by simp)) ?_
              refine AW.seqR ?_
              refine Chain.runK [] 1 fun K hK => ?_; simp; refine hK _ _ ?_; clear hK K
              refine Chain.sub (S' := mk 234 [] [(6, .d (.lit (.bool false)))] []) Sub.tt ?_
              refine Chain.nil ?_
              refine AW.ret ?_
              cases h
              refine blockQ.ret ?_
              refine thenQ_pass (by simp) ?_
              refine PostI.out (by simp) ?_
              rintro rfl
              refine blockQ.ret ?_
              refine PostJ.out (by simp) ?_
              rintro rfl
              refine thenQ_pass (by simp) ?_
              exact FinC.ret (by simp) (by simp)
             ·have c713_ : v710 = false := Bool.eq_false_iff.2 c713
              refine AW.condF (b := v710) rfl c713_ ?_
              refine AW.sub (Sub.bool 232 (b := v710) rfl c713_) ?_
              refine AW.sub (S' := mk 234 [] [(2, .d (.sl (a2.map cS))), (9, .ptr 50 0 0), (11, .mref 53), (14, .ref 183 0 l662.length), (119, .d (.sl (a1.map (cL (cI .i64))))), (120, .d (.lit (.int .i64 (a1.length : Int)))), (121, .d (.lit (.int .i64 v385))), (232, .d (.lit (.bool false)))] [(50, some (.box [.ref 6000 0 l659.length, .ref 6001 0 l660.length])), (53, some (.mp .string (encM MKey.sk (vI .i64) m661))), (183, some (.arr 32 1 (l662.map (cM .string false MKey.sk (cI .i64))))), (6000, some (.arr 30 2 (l659.map cS30))), (6001, some (.arr 22 1 (l660.map (cL cS30))))]) (by simp; exact Sub.table (by simp) (by simp)) ?_
              refine AW.skip ?_
              refine blockQ.normal ?_
              refine thenQ_normal ?_
              refine AW.region ?_
              replace h := bsome h; obtain ⟨v714, hv714, h⟩ := h
              have hv714 := chkI_some hv714
              refine Chain.runK [] 2 fun K hK => ?_; simp [hv714]; refine hK _ _ ?_; clear hK K
              refine Chain.sub (S' := mk 234 [] [(2, .d (.sl (a2.map cS))), (9, .ptr 50 0 0), (11, .mref 53), (14, .ref 183 0 l662.length), (119, .d (.sl (a1.map (cL (cI .i64))))), (120, .d (.lit (.int .i64 (a1.length : Int)))), (121, .d (.lit (.int .i64 v714)))] [(50, some (.box [.ref 6000 0 l659.length, .ref 6001 0 l660.length])), (53, some (.mp .string (encM MKey.sk (vI .i64) m661))), (183, some (.arr 32 1 (l662.map (cM .string false MKey.sk (cI .i64))))), (6000, some (.arr 30 2 (l659.map cS30))), (6001, some (.arr 22 1 (l660.map (cL cS30))))]) Sub.tt ?_
              refine Chain.nil ?_
              cases h
              refine PostI.next ?_
              exact Sub.tt
          ·have c607_ : decide (v385 < (a1.length : Int)) = false := decide_eq_false c607
           refine AW.condF (b := decide (v385 < (a1.length : Int))) rfl c607_ ?_
           refine AW.sub (Sub.bool 122 (b := decide (v385 < (a1.length : Int))) rfl c607_) ?_
           refine AW.sub (S' := mk 234 [] [(2, .d (.sl (a2.map cS))), (9, .ptr 50 0 0), (11, .mref 53), (14, .ref 183 0 l384.length), (119, .d (.sl (a1.map (cL (cI .i64))))), (120, .d (.lit (.int .i64 (a1.length : Int)))), (121, .d (.lit (.int .i64 v385))), (122, .d (.lit (.bool false)))] [(50, some (.box [.ref 6000 0 l381.length, .ref 6001 0 l382.length])), (53, some (.mp .string (encM MKey.sk (vI .i64) m383))), (183, some (.arr 32 1 (l384.map (cM .string false MKey.sk (cI .i64))))), (6000, some (.arr 30 2 (l381.map cS30))), (6001, some (.arr 22 1 (l382.map (cL cS30))))]) (by simp; exact Sub.table (by simp) (by simp)) ?_
           refine AW.exit ?_
           cases h
           refine thenQ_pass (by simp) ?_
           refine PostI.out (by simp) ?_
           rintro rfl
           refine blockQ.hit ?_
           refine PostJ.next ?_
           exact Sub.tt
         ·rintro ⟨⟩ h
          refine thenQ_normal ?_
          refine AW.seqR ?_
          refine Chain.runK [] 1 fun K hK => ?_; simp; refine hK _ _ ?_; clear hK K
          refine Chain.sub (S' := mk 234 [] [(6, .d (.lit (.bool true)))] []) Sub.tt ?_
          refine Chain.nil ?_
          refine AW.ret ?_
          cases h
          exact FinC.ret (by simp) (by simp)

end Go.Proofs.Ytdiekinmoklonac
