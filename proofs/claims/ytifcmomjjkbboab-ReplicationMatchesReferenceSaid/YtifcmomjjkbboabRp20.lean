/- Functions of the program as functional programs; the code computes them. -/
import Derived.Test.YtifcmomjjkbboabRp19
namespace Go.Proofs.Ytifcmomjjkbboab
open Go.Ab Go.Rp
attribute [-simp] List.all_eq_true Array.all_toList Array.all_eq_true

/-- stemma/stemlaw5.ReplicationMatchesReference -/
noncomputable def d3 (N : Nat) (a0 : Int) (a1 : (List (List Int))) (a2 : (List ByteArray)) (a3 : (List (List Int))) : Option Bool :=
 (d4 N 1).bind fun r1 =>
 ocase r1.1 (
  Option.bind (α := Unit) (
   if (r1.2 != 0) then (
    some ()
   ) else
   some ()
  ) fun (_ : Unit) =>
  some false
 ) fun r1o =>
 Option.bind (α := ((List S61) × (List Int) × (List S73) × Bool)) (
  if (r1.2 != 0) then (
   some (r1o.servers, r1o.leaders, r1o.network, true)
  ) else
  (d5 N r1o 0 (ByteArray.mk #[97])).bind fun r11 =>
  some (r11.1.servers, r11.1.leaders, r11.1.network, (r11.2 != 0))
 ) fun ((l6, l7, l8, v9) : ((List S61) × (List Int) × (List S73) × Bool)) =>
 if v9 = true then (
  some false
 ) else
 (d6 N (S59.mk l6 l7 l8) 0).bind fun r13 =>
 Option.bind (α := Bool) (
  if (r13.2.2 != 0) then (
   some true
  ) else
  if (r13.2.1 != 1) then (
   some true
  ) else
  some ((r13.1.length : Int) != 1)
 ) fun (v16 : Bool) =>
 if v16 = true then (
  some false
 ) else
 (d4 N a0).bind fun r20 =>
 ocase r20.1 (
  Option.bind (α := Bool) (
   if a0 < 1 then (
    some true
   ) else
   some (decide (a0 > 5))
  ) fun (v22 : Bool) =>
  if v22 = true then (
   Option.bind (α := Bool) (
    if (r20.2 == 1) then (
     some true
    ) else
    some false
   ) fun (v26 : Bool) =>
   some v26
  ) else
  Option.bind (α := Unit) (
   if (r20.2 != 0) then (
    some ()
   ) else
   some ()
  ) fun (_ : Unit) =>
  some false
 ) fun r20o =>
 Option.bind (α := Bool) (
  if a0 < 1 then (
   some true
  ) else
  some (decide (a0 > 5))
 ) fun (v31 : Bool) =>
 if v31 = true then (
  Option.bind (α := Unit) (
   if (r20.2 == 1) then (
    some ()
   ) else
   some ()
  ) fun (_ : Unit) =>
  some false
 ) else
 Option.bind (α := Bool) (
  if (r20.2 != 0) then (
   some true
  ) else
  some false
 ) fun (v37 : Bool) =>
 if v37 = true then (
  some false
 ) else
 (d7 N a0).bind fun r40 =>
 ocase r40 (
  bindO (β := Unit) (ρ := Bool) (
   iterN (σ := Unit) (ρ := (Out Unit Bool)) (fun (_ : Unit) =>
    if 0 < (a1.length : Int) then (
     (idx a1 0).bind fun x315 =>
     (d8 N x315 1).bind fun _r316 =>
     (d8 N x315 2).bind fun _r317 =>
     (d8 N x315 0).bind fun _r318 =>
     none
    ) else
    some (.inr (.go ()))
   ) N ()
  ) fun (_ : Unit) =>
  some true
 ) fun r40o =>
 bindO (β := Unit) (ρ := Bool) (
  iterN (σ := ((List S61) × (List Int) × (List S73) × (List S68) × (List Int) × (List S73) × Int)) (ρ := (Out Unit Bool)) (fun ((l567, l568, l569, l570, l571, l572, v573) : ((List S61) × (List Int) × (List S73) × (List S68) × (List Int) × (List S73) × Int)) =>
   if v573 < (a1.length : Int) then (
    (idx a1 v573).bind fun x908 =>
    (d8 N x908 1).bind fun r910 =>
    (d8 N x908 2).bind fun r911 =>
    (d8 N x908 0).bind fun r912 =>
    Option.bind (α := ((List S61) × (List Int) × (List S73) × (List S68) × (List Int) × (List S73) × Int × Int)) (
     if (r912 == 1) then (
      (d9 N a2 r911).bind fun r990 =>
      (d5 N (S59.mk l567 l568 l569) r910 r990).bind fun r991 =>
      (d10 N (S44.mk l570 l571 l572) r910 r990).bind fun r992 =>
      some (r991.1.servers, r991.1.leaders, r991.1.network, r992.1.Servers, r992.1.Leaders, r992.1.Network, r991.2, r992.2)
     ) else
     if (r912 == 2) then (
      (d11 N (S59.mk l567 l568 l569) r910 r911).bind fun r994 =>
      Option.bind (α := Bool) (
       (chkI (a0 - 1)).bind fun v1002 =>
       (d12 N r910 0 v1002).bind fun r1003 =>
       if (!r1003) = true then (
        some true
       ) else
       (chkI (a0 - 1)).bind fun v1005 =>
       (d12 N r911 0 v1005).bind fun r1006 =>
       if (!r1006) = true then (
        some true
       ) else
       some (r910 == r911)
      ) fun (v1001 : Bool) =>
      if v1001 = true then (
       some (r994.1.servers, r994.1.leaders, r994.1.network, l570, l571, l572, r994.2, 1)
      ) else
      (d13 N (S44.mk l570 l571 l572) r910).bind fun r1009 =>
      if (!r1009) = true then (
       some (r994.1.servers, r994.1.leaders, r994.1.network, l570, l571, l572, r994.2, 15)
      ) else
      if (l572.length : Int) ≥ 100 then (
       some (r994.1.servers, r994.1.leaders, r994.1.network, l570, l571, l572, r994.2, 18)
      ) else
      (d14 N (S44.mk l570 l571 l572) r910 r911).bind fun r1012 =>
      (appL 80 l572 [r1012]).bind fun _l1013 =>
      some (r994.1.servers, r994.1.leaders, r994.1.network, l570, l571, (l572 ++ [r1012]), r994.2, 0)
     ) else
     Option.bind (α := Bool) (
      if (r912 == 3) then (
       some true
      ) else
      some (r912 == 4)
     ) fun (v1015 : Bool) =>
     if v1015 = true then (
      (d8 N x908 0).bind fun r1018 =>
      Option.bind (α := ((List S61) × (List Int) × (List S73) × Int × Bool)) (
       if (r1018 == 3) then (
        (d15 N (S59.mk l567 l568 l569) r910).bind fun r1028 =>
        some (r1028.1.servers, r1028.1.leaders, r1028.1.network, r1028.2, true)
       ) else
       (d16 N (S59.mk l567 l568 l569) r910).bind fun r1029 =>
       some (r1029.1.servers, r1029.1.leaders, r1029.1.network, r1029.2, false)
      ) fun ((l1022, l1023, l1024, v1025, v1026) : ((List S61) × (List Int) × (List S73) × Int × Bool)) =>
      Option.bind (α := Bool) (
       if r910 ≥ 0 then (
        some (decide (r910 < (l572.length : Int)))
       ) else
       some false
      ) fun (v1031 : Bool) =>
      if v1031 = true then (
       (idx l572 r910).bind fun x1034 =>
       (natI r910 l572.length).bind fun n1044 =>
       letv (l572.take n1044) fun l1045 =>
       (chkI ((n1044 : Int) + 1)).bind fun v1046 =>
       (natI v1046 l572.length).bind fun n1047 =>
       letv (l572.drop n1047) fun l1048 =>
       (d17 N [l1045, l1048]).bind fun r1049 =>
       if v1026 = true then (
        (d18 N (S44.mk l570 l571 r1049) x1034).bind fun r1051 =>
        some (l1022, l1023, l1024, r1051.Servers, r1051.Leaders, r1051.Network, v1025, 0)
       ) else
       some (l1022, l1023, l1024, l570, l571, r1049, v1025, 0)
      ) else
      some (l1022, l1023, l1024, l570, l571, l572, v1025, 4)
     ) else
     if (r912 == 5) then (
      (d20 N a3 r911).bind fun r1053 =>
      (d19 N (S59.mk l567 l568 l569) r910 r1053).bind fun r1054 =>
      (d20 N a3 r911).bind fun r1055 =>
      (d21 N (S44.mk l570 l571 l572) r910 r1055).bind fun r1056 =>
      some (r1054.1.servers, r1054.1.leaders, r1054.1.network, r1056.1.Servers, r1056.1.Leaders, r1056.1.Network, r1054.2, r1056.2)
     ) else
     some (l567, l568, l569, l570, l571, l572, 0, 0)
    ) fun ((l981, l982, l983, l984, l985, l986, v987, v988) : ((List S61) × (List Int) × (List S73) × (List S68) × (List Int) × (List S73) × Int × Int)) =>
    Option.bind (α := ((List S61) × (List Int) × (List S73) × (List S68) × (List Int) × (List S73) × Bool)) (
     if (v987 != v988) then (
      some (l981, l982, l983, l984, l985, l986, true)
     ) else
     (d22 N (S59.mk l981 l982 l983) (S44.mk l984 l985 l986)).bind fun r1067 =>
     some (r1067.1.servers, r1067.1.leaders, r1067.1.network, r1067.2.1.Servers, r1067.2.1.Leaders, r1067.2.1.Network, (!r1067.2.2))
    ) fun ((l1059, l1060, l1061, l1062, l1063, l1064, v1065) : ((List S61) × (List Int) × (List S73) × (List S68) × (List Int) × (List S73) × Bool)) =>
    if v1065 = true then (
     some (.inr (.ret false))
    ) else
    (chkI (v573 + 1)).bind fun v1069 =>
    some (.inl (l1059, l1060, l1061, l1062, l1063, l1064, v1069))
   ) else
   some (.inr (.go ()))
  ) N (r20o.servers, r20o.leaders, r20o.network, r40o.Servers, r40o.Leaders, r40o.Network, 0)
 ) fun (_ : Unit) =>
 some true
set_option maxRecDepth 100000 in
set_option maxHeartbeats 4000000 in
theorem p3 (N : Nat) (a0 : Int) (a1 : (List (List Int))) (a2 : (List ByteArray)) (a3 : (List (List Int))) (r : Bool) (h : d3 N a0 a1 a2 a3 = some r) : FunC Try.prog 3 [.i a0, .d (.sl (a1.map (cL (cI .i64)))), .d (.sl (a2.map cS)), .d (.sl (a3.map (cL (cI .i64))))] (.b r) := by
 unfold d3 at h
 refine FunC.enter 234 [(0, .i a0), (1, .d (.sl (a1.map (cL (cI .i64))))), (2, .d (.sl (a2.map cS))), (3, .d (.sl (a3.map (cL (cI .i64)))))] (by simp) Try.func3 rfl (of_decide_eq_true rfl) rfl rfl ?_
 refine .seqR ?_
 refine .runK [] 1 fun K k => ?_; simp; refine k _ _ ?_; clear k K
 refine .tt (L63 a0 a1 a2 a3) [] ?_
 refine .nil ?_
 refine .seq ?_
 refine .seqR ?_
 replace h := bsome h; obtain ⟨r1, hr1, h⟩ := h
 have Fr1 := p4 N 1 r1 hr1
 rcases osome h with ⟨hr1o, h⟩ | ⟨r1o, hr1o, h⟩
 ·simp only [hr1o, List.append_nil] at Fr1
  refine .callF Fr1 [] [] [] [] (.tup [.d (.lit (.pointer none)), .d (.lit (.int .i64 r1.2))]) (by simp) rfl (by simp <;> rfl) (by simp) (by simp) (by simp) (by simp) (by simp) ent4 (by simp) (by simp) (by simp) (by simp) (by simp) (by simp) ?_
  refine .st (mk 234 [] (L63 a0 a1 a2 a3 ++ [(27, .tup [.d (.lit (.pointer none)), .i r1.2])]) []) ?_
  refine .runK [] 5 fun K k => ?_; simp; refine k _ _ ?_; clear k K
  refine .tt (L64 a0 a1 a2 a3 ++ [(10, .i r1.2)]) [] ?_
  refine .nil ?_
  replace h := bsome h; obtain ⟨⟨⟩, hj, h⟩ := h
  refine .cutR (mk 234 [] (L65 a0 a1 a2 a3) []) ?_ ?_
  ·clear h; have h := hj; clear hj
   refine .runK [] 3 fun K k => ?_; simp; refine k _ _ ?_; clear k K
   refine .tt (L64 a0 a1 a2 a3 ++ [(32, .b (r1.2 != 0))]) [] ?_
   replace h := isome h; rcases h with ⟨c3, h⟩ | ⟨c3, h⟩
   ·have c3_ : (r1.2 != 0) = true := c3
    refine .sub (.bool 32 (b := (r1.2 != 0)) rfl c3_) ?_
    refine .st (mk 234 [] (L64 a0 a1 a2 a3 ++ [(32, .b true)]) []) ?_
    refine .runK [] 8 fun K k => ?_; simp; refine k _ _ ?_; clear k K
    refine .tt (L65 a0 a1 a2 a3) [] ?_
    cases h
    exact .nil .tt
   have c3_ : (r1.2 != 0) = false := Bool.eq_false_iff.2 c3
   refine .sub (.bool 32 (b := (r1.2 != 0)) rfl c3_) ?_
   refine .st (mk 234 [] (L64 a0 a1 a2 a3 ++ [(32, .b false)]) []) ?_
   refine .runK [] 8 fun K k => ?_; simp; refine k _ _ ?_; clear k K
   refine .tt (L65 a0 a1 a2 a3) [] ?_
   cases h
   exact .nil .tt
  clear hj
  refine .condK fun K1 K2 k1 k2 => ?_; simp; refine k1 ?_; clear k1 k2 K1 K2
  refine .seqR ?_
  refine .runK [] 1 fun K k => ?_; simp; refine k _ _ ?_; clear k K
  refine .tt [(8, .b false)] [] ?_
  refine .nil ?_
  refine .ret ?_
  cases h
  refine thenQ_pass (by simp) ?_
  exact FinC.ret (by simp) (by simp)
 simp only [hr1o, List.nil_append] at Fr1
 refine .callF Fr1 [] [] [(1000, 27), (25000, 5540), (25001, 5541), (25002, 5542)] [(27, (.box [.ref 5540 0 r1o.servers.length, .ref 5541 0 r1o.leaders.length, .ref 5542 0 r1o.network.length])), (5540, (.nest 61 4 [none, none, some (64, 2), some (3, 1)] (r1o.servers.map cS61) [])), (5541, (.arr 3 1 (r1o.leaders.map (cI .i64)))), (5542, (.arr 73 8 (r1o.network.map cS73)))] (.tup [.ptr 27 0 0, .d (.lit (.int .i64 r1.2))]) (by simp) rfl (by simp <;> rfl) (by simp) (by simp) (by simp) (by simp) (by simp) ent4 (by simp) (by simp) (by simp) (by simp) (by simp) (by simp) ?_
 refine .st (mk 234 [] (L63 a0 a1 a2 a3 ++ [(27, .tup [.ptr 27 0 0, .i r1.2])]) (H18 r1o)) ?_
 refine .runK [] 5 fun K k => ?_; simp; refine k _ _ ?_; clear k K
 refine .tt (L66 a0 a1 a2 a3 ++ [(10, .i r1.2)]) (H18 r1o) ?_
 refine .nil ?_
 replace h := bsome h; obtain ⟨⟨l6, l7, l8, v9⟩, hj, h⟩ := h
 dsimp only at h
 refine .cutR (mk 234 [] (L66 a0 a1 a2 a3 ++ [(40, .b v9)]) (H25 l6 l7 l8)) ?_ ?_
 ·clear h; have h := hj; clear hj
  refine .runK [] 3 fun K k => ?_; simp; refine k _ _ ?_; clear k K
  refine .tt (L66 a0 a1 a2 a3 ++ [(32, .b (r1.2 != 0))]) (H18 r1o) ?_
  replace h := isome h; rcases h with ⟨c10, h⟩ | ⟨c10, h⟩
  ·have c10_ : (r1.2 != 0) = true := c10
   refine .sub (.bool 32 (b := (r1.2 != 0)) rfl c10_) ?_
   refine .st (mk 234 [] (L66 a0 a1 a2 a3 ++ [(32, .b true)]) (H18 r1o)) ?_
   refine .runK [] 8 fun K k => ?_; simp; refine k _ _ ?_; clear k K
   refine .tt (L66 a0 a1 a2 a3 ++ [(40, .b true)]) (H18 r1o) ?_
   cases h
   exact .nil .tt
  have c10_ : (r1.2 != 0) = false := Bool.eq_false_iff.2 c10
  refine .sub (.bool 32 (b := (r1.2 != 0)) rfl c10_) ?_
  refine .st (mk 234 [] (L66 a0 a1 a2 a3 ++ [(32, .b false)]) (H18 r1o)) ?_
  refine .runK [] 5 fun K k => ?_; simp; refine k _ _ ?_; clear k K
  refine .tt (L66 a0 a1 a2 a3 ++ [(36, .b false), (37, .ptr 27 0 0)]) (H18 r1o) ?_
  replace h := bsome h; obtain ⟨r11, hr11, h⟩ := h
  refine .callF (p5 N r1o 0 (ByteArray.mk #[97]) r11 hr11) [(27, 1000), (5540, 25000), (5541, 25001), (5542, 25002)] [27] [(1000, 27), (25000, 5540), (25001, 5541), (25002, 5542)] [(27, (.box [.ref 5540 0 r11.1.servers.length, .ref 5541 0 r11.1.leaders.length, .ref 5542 0 r11.1.network.length])), (5540, (.nest 61 4 [none, none, some (64, 2), some (3, 1)] (r11.1.servers.map cS61) [])), (5541, (.arr 3 1 (r11.1.leaders.map (cI .i64)))), (5542, (.arr 73 8 (r11.1.network.map cS73)))] (.i r11.2) (by simp) rfl (by simp <;> rfl) (by simp) (by simp) (by simp) (by simp) (by simp) ent5 (by simp) (by simp) (by simp) (by simp) (by simp) (by simp) ?_
  refine .st (mk 234 [] (L66 a0 a1 a2 a3 ++ [(36, .b false), (37, .ptr 27 0 0), (38, .i r11.2)]) (H18 r11.1)) ?_
  refine .runK [] 2 fun K k => ?_; simp; refine k _ _ ?_; clear k K
  refine .tt (L66 a0 a1 a2 a3 ++ [(40, .b (r11.2 != 0))]) (H18 r11.1) ?_
  cases h
  exact .nil .tt
 clear hj
 replace h := isome h; rcases h with ⟨c12, h⟩ | ⟨c12, h⟩
 ·have c12_ : v9 = true := c12
  refine .condT (b := v9) rfl c12_ ?_
  refine .sub (.bool 40 (b := v9) rfl c12_) ?_
  refine .st (mk 234 [] (L66 a0 a1 a2 a3 ++ [(40, .b true)]) (H25 l6 l7 l8)) ?_
  refine .seqR ?_
  refine .runK [] 1 fun K k => ?_; simp; refine k _ _ ?_; clear k K
  refine .tt [(8, .b false)] [] ?_
  refine .nil ?_
  refine .ret ?_
  cases h
  refine thenQ_pass (by simp) ?_
  exact FinC.ret (by simp) (by simp)
 have c12_ : v9 = false := Bool.eq_false_iff.2 c12
 refine .condF (b := v9) rfl c12_ ?_
 refine .sub (.bool 40 (b := v9) rfl c12_) ?_
 refine .st (mk 234 [] (L66 a0 a1 a2 a3 ++ [(40, .b false)]) (H25 l6 l7 l8)) ?_
 refine .seqR ?_
 refine .runK [] 1 fun K k => ?_; simp; refine k _ _ ?_; clear k K
 refine .tt (L63 a0 a1 a2 a3 ++ [(42, .ptr 27 0 0)]) (H25 l6 l7 l8) ?_
 replace h := bsome h; obtain ⟨r13, hr13, h⟩ := h
 refine .callFr (d := 43) (p6 N (S59.mk l6 l7 l8) 0 r13 hr13) (by simp) rfl rfl (by simp <;> rfl) (by simp <;> rfl) ent6 (by simp) ?_
 refine .st (mk 234 [] (L63 a0 a1 a2 a3 ++ [(42, .ptr 27 0 0), (43, .tup [.d (.sl (r13.1.map cS64)), .i r13.2.1, .i r13.2.2])]) (H25 l6 l7 l8)) ?_
 refine .runK [] 7 fun K k => ?_; simp; refine k _ _ ?_; clear k K
 refine .tt (L67 a0 a1 a2 a3 r13.1 r13.2.1 ++ [(13, .i r13.2.2)]) [] ?_
 refine .nil ?_
 replace h := bsome h; obtain ⟨v16, hj, h⟩ := h
 refine .cutR (mk 234 [] (L63 a0 a1 a2 a3 ++ [(57, .b v16)]) []) ?_ ?_
 ·clear h; have h := hj; clear hj
  refine .runK [] 3 fun K k => ?_; simp; refine k _ _ ?_; clear k K
  refine .tt (L67 a0 a1 a2 a3 r13.1 r13.2.1 ++ [(49, .b (r13.2.2 != 0))]) [] ?_
  replace h := isome h; rcases h with ⟨c17, h⟩ | ⟨c17, h⟩
  ·have c17_ : (r13.2.2 != 0) = true := c17
   refine .sub (.bool 49 (b := (r13.2.2 != 0)) rfl c17_) ?_
   refine .st (mk 234 [] (L67 a0 a1 a2 a3 r13.1 r13.2.1 ++ [(49, .b true)]) []) ?_
   refine .runK [] 8 fun K k => ?_; simp; refine k _ _ ?_; clear k K
   refine .tt (L68 a0 a1 a2 a3) [] ?_
   cases h
   exact .nil .tt
  have c17_ : (r13.2.2 != 0) = false := Bool.eq_false_iff.2 c17
  refine .sub (.bool 49 (b := (r13.2.2 != 0)) rfl c17_) ?_
  refine .st (mk 234 [] (L67 a0 a1 a2 a3 r13.1 r13.2.1 ++ [(49, .b false)]) []) ?_
  refine .runK [] 4 fun K k => ?_; simp; refine k _ _ ?_; clear k K
  refine .tt (L69 a0 a1 a2 a3 r13.1 ++ [(53, .b (r13.2.1 != 1))]) [] ?_
  replace h := isome h; rcases h with ⟨c18, h⟩ | ⟨c18, h⟩
  ·have c18_ : (r13.2.1 != 1) = true := c18
   refine .sub (.bool 53 (b := (r13.2.1 != 1)) rfl c18_) ?_
   refine .st (mk 234 [] (L69 a0 a1 a2 a3 r13.1 ++ [(53, .b true)]) []) ?_
   refine .runK [] 4 fun K k => ?_; simp; refine k _ _ ?_; clear k K
   refine .tt (L68 a0 a1 a2 a3) [] ?_
   cases h
   exact .nil .tt
  have c18_ : (r13.2.1 != 1) = false := Bool.eq_false_iff.2 c18
  refine .sub (.bool 53 (b := (r13.2.1 != 1)) rfl c18_) ?_
  refine .st (mk 234 [] (L69 a0 a1 a2 a3 r13.1 ++ [(53, .b false)]) []) ?_
  refine .runK [] 4 fun K k => ?_; simp; refine k _ _ ?_; clear k K
  refine .tt (L63 a0 a1 a2 a3 ++ [(57, .b ((r13.1.length : Int) != 1))]) [] ?_
  cases h
  exact .nil .tt
 clear hj
 replace h := isome h; rcases h with ⟨c19, h⟩ | ⟨c19, h⟩
 ·have c19_ : v16 = true := c19
  refine .condT (b := v16) rfl c19_ ?_
  refine .sub (.bool 57 (b := v16) rfl c19_) ?_
  refine .st (mk 234 [] (L68 a0 a1 a2 a3) []) ?_
  refine .seqR ?_
  refine .runK [] 1 fun K k => ?_; simp; refine k _ _ ?_; clear k K
  refine .tt [(8, .b false)] [] ?_
  refine .nil ?_
  refine .ret ?_
  cases h
  refine thenQ_pass (by simp) ?_
  exact FinC.ret (by simp) (by simp)
 have c19_ : v16 = false := Bool.eq_false_iff.2 c19
 refine .condF (b := v16) rfl c19_ ?_
 refine .sub (.bool 57 (b := v16) rfl c19_) ?_
 refine .st (mk 234 [] (L63 a0 a1 a2 a3 ++ [(57, .b false)]) []) ?_
 refine .skip ?_
 refine thenQ_normal ?_
 refine .seqR ?_
 refine .runK [] 1 fun K k => ?_; simp; refine k _ _ ?_; clear k K
 refine .tt (L70 a0 a1 a2 a3) [] ?_
 replace h := bsome h; obtain ⟨r20, hr20, h⟩ := h
 have Fr20 := p4 N a0 r20 hr20
 rcases osome h with ⟨hr20o, h⟩ | ⟨r20o, hr20o, h⟩
 ·simp only [hr20o, List.append_nil] at Fr20
  refine .callF Fr20 [] [] [] [] (.tup [.d (.lit (.pointer none)), .d (.lit (.int .i64 r20.2))]) (by simp) rfl (by simp <;> rfl) (by simp) (by simp) (by simp) (by simp) (by simp) ent4 (by simp) (by simp) (by simp) (by simp) (by simp) (by simp) ?_
  refine .st (mk 234 [] (L70 a0 a1 a2 a3 ++ [(60, .tup [.d (.lit (.pointer none)), .i r20.2])]) []) ?_
  refine .runK [] 5 fun K k => ?_; simp; refine k _ _ ?_; clear k K
  refine .tt (L71 a0 a1 a2 a3 r20.2) [] ?_
  refine .nil ?_
  refine .seq ?_
  replace h := bsome h; obtain ⟨v22, hj, h⟩ := h
  refine .cutR (mk 234 [] (L71 a0 a1 a2 a3 r20.2 ++ [(68, .b v22)]) []) ?_ ?_
  ·clear h; have h := hj; clear hj
   refine .runK [] 3 fun K k => ?_; simp; refine k _ _ ?_; clear k K
   refine .tt (L71 a0 a1 a2 a3 r20.2 ++ [(65, .b (decide (a0 < 1)))]) [] ?_
   replace h := isome h; rcases h with ⟨c23, h⟩ | ⟨c23, h⟩
   ·have c23_ : decide (a0 < 1) = true := decide_eq_true c23
    refine .sub (.bool 65 (b := decide (a0 < 1)) rfl c23_) ?_
    refine .st (mk 234 [] (L71 a0 a1 a2 a3 r20.2 ++ [(65, .b true)]) []) ?_
    refine .runK [] 3 fun K k => ?_; simp; refine k _ _ ?_; clear k K
    refine .tt (L71 a0 a1 a2 a3 r20.2 ++ [(68, .b true)]) [] ?_
    cases h
    exact .nil .tt
   have c23_ : decide (a0 < 1) = false := decide_eq_false c23
   refine .sub (.bool 65 (b := decide (a0 < 1)) rfl c23_) ?_
   refine .st (mk 234 [] (L71 a0 a1 a2 a3 r20.2 ++ [(65, .b false)]) []) ?_
   refine .runK [] 3 fun K k => ?_; simp; refine k _ _ ?_; clear k K
   refine .tt (L71 a0 a1 a2 a3 r20.2 ++ [(68, .b (decide (a0 > 5)))]) [] ?_
   cases h
   exact .nil .tt
  clear hj
  replace h := isome h; rcases h with ⟨c24, h⟩ | ⟨c24, h⟩
  ·have c24_ : v22 = true := c24
   refine .condT (b := v22) rfl c24_ ?_
   refine .sub (.bool 68 (b := v22) rfl c24_) ?_
   refine .st (mk 234 [] (L71 a0 a1 a2 a3 r20.2 ++ [(68, .b true)]) []) ?_
   replace h := bsome h; obtain ⟨v26, hj, h⟩ := h
   refine .cutR (mk 234 [] [(8, .b v26)] []) ?_ ?_
   ·clear h; have h := hj; clear hj
    refine .runK [] 3 fun K k => ?_; simp; refine k _ _ ?_; clear k K
    refine .tt [(14, .d (.lit (.pointer none))), (71, .b (r20.2 == 1))] [] ?_
    replace h := isome h; rcases h with ⟨c27, h⟩ | ⟨c27, h⟩
    ·have c27_ : (r20.2 == 1) = true := c27
     refine .sub (.bool 71 (b := (r20.2 == 1)) rfl c27_) ?_
     refine .st (mk 234 [] [(14, .d (.lit (.pointer none))), (71, .b true)] []) ?_
     refine .runK [] 4 fun K k => ?_; simp; refine k _ _ ?_; clear k K
     refine .tt [(8, .b true)] [] ?_
     cases h
     exact .nil .tt
    have c27_ : (r20.2 == 1) = false := Bool.eq_false_iff.2 c27
    refine .sub (.bool 71 (b := (r20.2 == 1)) rfl c27_) ?_
    refine .st (mk 234 [] [(14, .d (.lit (.pointer none))), (71, .b false)] []) ?_
    refine .runK [] 4 fun K k => ?_; simp; refine k _ _ ?_; clear k K
    refine .tt [(8, .b false)] [] ?_
    cases h
    exact .nil .tt
   clear hj
   refine .ret ?_
   cases h
   refine thenQ_pass (by simp) ?_
   exact FinC.ret (by simp) (by simp)
  have c24_ : v22 = false := Bool.eq_false_iff.2 c24
  refine .condF (b := v22) rfl c24_ ?_
  refine .sub (.bool 68 (b := v22) rfl c24_) ?_
  refine .st (mk 234 [] (L71 a0 a1 a2 a3 r20.2 ++ [(68, .b false)]) []) ?_
  refine .skip ?_
  refine thenQ_normal ?_
  refine .seq ?_
  replace h := bsome h; obtain ⟨⟨⟩, hj, h⟩ := h
  refine .cutR (mk 234 [] (L72 a0 a1 a2 a3) []) ?_ ?_
  ·clear h; have h := hj; clear hj
   refine .runK [] 3 fun K k => ?_; simp; refine k _ _ ?_; clear k K
   refine .tt (L73 a0 a1 a2 a3 ++ [(77, .b (r20.2 != 0))]) [] ?_
   replace h := isome h; rcases h with ⟨c29, h⟩ | ⟨c29, h⟩
   ·have c29_ : (r20.2 != 0) = true := c29
    refine .sub (.bool 77 (b := (r20.2 != 0)) rfl c29_) ?_
    refine .st (mk 234 [] (L73 a0 a1 a2 a3 ++ [(77, .b true)]) []) ?_
    refine .runK [] 3 fun K k => ?_; simp; refine k _ _ ?_; clear k K
    refine .tt (L72 a0 a1 a2 a3) [] ?_
    cases h
    exact .nil .tt
   have c29_ : (r20.2 != 0) = false := Bool.eq_false_iff.2 c29
   refine .sub (.bool 77 (b := (r20.2 != 0)) rfl c29_) ?_
   refine .st (mk 234 [] (L73 a0 a1 a2 a3 ++ [(77, .b false)]) []) ?_
   refine .runK [] 3 fun K k => ?_; simp; refine k _ _ ?_; clear k K
   refine .tt (L72 a0 a1 a2 a3) [] ?_
   cases h
   exact .nil .tt
  clear hj
  refine .condK fun K1 K2 k1 k2 => ?_; simp; refine k1 ?_; clear k1 k2 K1 K2
  refine .seqR ?_
  refine .runK [] 1 fun K k => ?_; simp; refine k _ _ ?_; clear k K
  refine .tt [(8, .b false)] [] ?_
  refine .nil ?_
  refine .ret ?_
  cases h
  refine thenQ_pass (by simp) ?_
  exact FinC.ret (by simp) (by simp)
 simp only [hr20o, List.nil_append] at Fr20
 refine .callF Fr20 [] [] [(1000, 60), (25000, 6200), (25001, 6201), (25002, 6202)] [(60, (.box [.ref 6200 0 r20o.servers.length, .ref 6201 0 r20o.leaders.length, .ref 6202 0 r20o.network.length])), (6200, (.nest 61 4 [none, none, some (64, 2), some (3, 1)] (r20o.servers.map cS61) [])), (6201, (.arr 3 1 (r20o.leaders.map (cI .i64)))), (6202, (.arr 73 8 (r20o.network.map cS73)))] (.tup [.ptr 60 0 0, .d (.lit (.int .i64 r20.2))]) (by simp) rfl (by simp <;> rfl) (by simp) (by simp) (by simp) (by simp) (by simp) ent4 (by simp) (by simp) (by simp) (by simp) (by simp) (by simp) ?_
 refine .st (mk 234 [] (L70 a0 a1 a2 a3 ++ [(60, .tup [.ptr 60 0 0, .i r20.2])]) (H6 r20o)) ?_
 refine .runK [] 5 fun K k => ?_; simp; refine k _ _ ?_; clear k K
 refine .tt (L74 a0 a1 a2 a3 r20.2) (H6 r20o) ?_
 refine .nil ?_
 refine .seq ?_
 replace h := bsome h; obtain ⟨v31, hj, h⟩ := h
 refine .cutR (mk 234 [] (L74 a0 a1 a2 a3 r20.2 ++ [(68, .b v31)]) (H6 r20o)) ?_ ?_
 ·clear h; have h := hj; clear hj
  refine .runK [] 3 fun K k => ?_; simp; refine k _ _ ?_; clear k K
  refine .tt (L74 a0 a1 a2 a3 r20.2 ++ [(65, .b (decide (a0 < 1)))]) (H6 r20o) ?_
  replace h := isome h; rcases h with ⟨c32, h⟩ | ⟨c32, h⟩
  ·have c32_ : decide (a0 < 1) = true := decide_eq_true c32
   refine .sub (.bool 65 (b := decide (a0 < 1)) rfl c32_) ?_
   refine .st (mk 234 [] (L74 a0 a1 a2 a3 r20.2 ++ [(65, .b true)]) (H6 r20o)) ?_
   refine .runK [] 3 fun K k => ?_; simp; refine k _ _ ?_; clear k K
   refine .tt (L74 a0 a1 a2 a3 r20.2 ++ [(68, .b true)]) (H6 r20o) ?_
   cases h
   exact .nil .tt
  have c32_ : decide (a0 < 1) = false := decide_eq_false c32
  refine .sub (.bool 65 (b := decide (a0 < 1)) rfl c32_) ?_
  refine .st (mk 234 [] (L74 a0 a1 a2 a3 r20.2 ++ [(65, .b false)]) (H6 r20o)) ?_
  refine .runK [] 3 fun K k => ?_; simp; refine k _ _ ?_; clear k K
  refine .tt (L74 a0 a1 a2 a3 r20.2 ++ [(68, .b (decide (a0 > 5)))]) (H6 r20o) ?_
  cases h
  exact .nil .tt
 clear hj
 replace h := isome h; rcases h with ⟨c33, h⟩ | ⟨c33, h⟩
 ·have c33_ : v31 = true := c33
  refine .condT (b := v31) rfl c33_ ?_
  refine .sub (.bool 68 (b := v31) rfl c33_) ?_
  refine .st (mk 234 [] (L74 a0 a1 a2 a3 r20.2 ++ [(68, .b true)]) (H6 r20o)) ?_
  replace h := bsome h; obtain ⟨⟨⟩, hj, h⟩ := h
  refine .cutR (mk 234 [] [(8, .b false)] []) ?_ ?_
  ·clear h; have h := hj; clear hj
   refine .runK [] 3 fun K k => ?_; simp; refine k _ _ ?_; clear k K
   refine .tt [(14, .ptr 60 0 0), (71, .b (r20.2 == 1))] (H6 r20o) ?_
   replace h := isome h; rcases h with ⟨c35, h⟩ | ⟨c35, h⟩
   ·have c35_ : (r20.2 == 1) = true := c35
    refine .sub (.bool 71 (b := (r20.2 == 1)) rfl c35_) ?_
    refine .st (mk 234 [] [(14, .ptr 60 0 0), (71, .b true)] (H6 r20o)) ?_
    refine .runK [] 4 fun K k => ?_; simp; refine k _ _ ?_; clear k K
    refine .tt [(8, .b false)] [] ?_
    cases h
    exact .nil .tt
   have c35_ : (r20.2 == 1) = false := Bool.eq_false_iff.2 c35
   refine .sub (.bool 71 (b := (r20.2 == 1)) rfl c35_) ?_
   refine .st (mk 234 [] [(14, .ptr 60 0 0), (71, .b false)] (H6 r20o)) ?_
   refine .runK [] 4 fun K k => ?_; simp; refine k _ _ ?_; clear k K
   refine .tt [(8, .b false)] [] ?_
   cases h
   exact .nil .tt
  clear hj
  refine .ret ?_
  cases h
  refine thenQ_pass (by simp) ?_
  exact FinC.ret (by simp) (by simp)
 have c33_ : v31 = false := Bool.eq_false_iff.2 c33
 refine .condF (b := v31) rfl c33_ ?_
 refine .sub (.bool 68 (b := v31) rfl c33_) ?_
 refine .st (mk 234 [] (L74 a0 a1 a2 a3 r20.2 ++ [(68, .b false)]) (H6 r20o)) ?_
 refine .skip ?_
 refine thenQ_normal ?_
 refine .seq ?_
 replace h := bsome h; obtain ⟨v37, hj, h⟩ := h
 refine .cutR (mk 234 [] (L75 a0 a1 a2 a3 ++ [(80, .b v37)]) (H6 r20o)) ?_ ?_
 ·clear h; have h := hj; clear hj
  refine .runK [] 3 fun K k => ?_; simp; refine k _ _ ?_; clear k K
  refine .tt (L75 a0 a1 a2 a3 ++ [(77, .b (r20.2 != 0))]) (H6 r20o) ?_
  replace h := isome h; rcases h with ⟨c38, h⟩ | ⟨c38, h⟩
  ·have c38_ : (r20.2 != 0) = true := c38
   refine .sub (.bool 77 (b := (r20.2 != 0)) rfl c38_) ?_
   refine .st (mk 234 [] (L75 a0 a1 a2 a3 ++ [(77, .b true)]) (H6 r20o)) ?_
   refine .runK [] 3 fun K k => ?_; simp; refine k _ _ ?_; clear k K
   refine .tt (L75 a0 a1 a2 a3 ++ [(80, .b true)]) (H6 r20o) ?_
   cases h
   exact .nil .tt
  have c38_ : (r20.2 != 0) = false := Bool.eq_false_iff.2 c38
  refine .sub (.bool 77 (b := (r20.2 != 0)) rfl c38_) ?_
  refine .st (mk 234 [] (L75 a0 a1 a2 a3 ++ [(77, .b false)]) (H6 r20o)) ?_
  refine .runK [] 3 fun K k => ?_; simp; refine k _ _ ?_; clear k K
  refine .tt (L75 a0 a1 a2 a3 ++ [(80, .b false)]) (H6 r20o) ?_
  cases h
  exact .nil .tt
 clear hj
 replace h := isome h; rcases h with ⟨c39, h⟩ | ⟨c39, h⟩
 ·have c39_ : v37 = true := c39
  refine .condT (b := v37) rfl c39_ ?_
  refine .sub (.bool 80 (b := v37) rfl c39_) ?_
  refine .st (mk 234 [] (L75 a0 a1 a2 a3 ++ [(80, .b true)]) (H6 r20o)) ?_
  refine .seqR ?_
  refine .runK [] 1 fun K k => ?_; simp; refine k _ _ ?_; clear k K
  refine .tt [(8, .b false)] [] ?_
  refine .nil ?_
  refine .ret ?_
  cases h
  refine thenQ_pass (by simp) ?_
  exact FinC.ret (by simp) (by simp)
 have c39_ : v37 = false := Bool.eq_false_iff.2 c39
 refine .condF (b := v37) rfl c39_ ?_
 refine .sub (.bool 80 (b := v37) rfl c39_) ?_
 refine .st (mk 234 [] (L75 a0 a1 a2 a3 ++ [(80, .b false)]) (H6 r20o)) ?_
 refine .skip ?_
 refine thenQ_normal ?_
 refine .seqR ?_
 refine .runK [] 1 fun K k => ?_; simp; refine k _ _ ?_; clear k K
 refine .tt (L76 a0 a1 a2 a3) (H6 r20o) ?_
 replace h := bsome h; obtain ⟨r40, hr40, h⟩ := h
 have Fr40 := p7 N a0 r40 hr40
 rcases osome h with ⟨hr40o, h⟩ | ⟨r40o, hr40o, h⟩
 ·simp only [hr40o, List.append_nil] at Fr40
  refine .callF Fr40 [] [] [] [] (.d (.lit (.pointer none))) (by simp) rfl (by simp <;> rfl) (by simp) (by simp) (by simp) (by simp) (by simp) ent7 (by simp) (by simp) (by simp) (by simp) (by simp) (by simp) ?_
  refine .st (mk 234 [] (L76 a0 a1 a2 a3 ++ [(82, .d (.lit (.pointer none)))]) (H6 r20o)) ?_
  refine .runK [] 1 fun K k => ?_; simp; refine k _ _ ?_; clear k K
  refine .tt (L75 a0 a1 a2 a3 ++ [(16, .d (.lit (.pointer none)))]) (H6 r20o) ?_
  refine .nil ?_
  refine .seq ?_
  refine .seqR ?_
  refine .runK [] 3 fun K k => ?_; simp; refine k _ _ ?_; clear k K
  refine .tt (L77 a0 a2 a3 a1 a1.length) (H6 r20o) ?_
  refine .nil ?_
  refine .lastJ (fun (_ : Unit) => mk 234 [] [] []) h ?_ ?_ <;> clear h
  ·intro o h
   refine .block ?_
   refine .iter (fun (_ : Unit) => mk 234 [] (L77 a0 a2 a3 a1 a1.length) (H6 r20o)) h Sub.tt ?_
   clear h
   rintro ⟨⟩ x h
   refine .seqR ?_
   refine .runK [] 1 fun K k => ?_; simp; refine k _ _ ?_; clear k K
   refine .tt (L77 a0 a2 a3 a1 a1.length ++ [(86, .b (decide (0 < (a1.length : Int))))]) (H6 r20o) ?_
   refine .nil ?_
   refine .seq ?_
   replace h := isome h; rcases h with ⟨c314, h⟩ | ⟨c314, h⟩
   ·have c314_ : decide (0 < (a1.length : Int)) = true := decide_eq_true c314
    refine .condT (b := decide (0 < (a1.length : Int))) rfl c314_ ?_
    refine .sub (.bool 86 (b := decide (0 < (a1.length : Int))) rfl c314_) ?_
    refine .st (mk 234 [] (L77 a0 a2 a3 a1 a1.length ++ [(86, .b true)]) (H6 r20o)) ?_
    refine .skip ?_
    refine thenQ_normal ?_
    refine .seq ?_
    refine .block ?_
    refine .seqR ?_
    replace h := bsome h; obtain ⟨x315, hx315, h⟩ := h
    obtain ⟨hx315, hx315b, hx315c⟩ := idx_someN (n := 0) hx315
    refine .runK [] 3 fun K k => ?_; simp [hx315]; refine k _ _ ?_; clear k K
    refine .tt (L78 a0 a2 a3 x315 a1 a1.length) (H6 r20o) ?_
    refine .nil ?_
    refine .seqR ?_
    refine .runK [] 1 fun K k => ?_; simp; refine k _ _ ?_; clear k K
    refine .tt (L78 a0 a2 a3 x315 a1 a1.length ++ [(89, .d (.sl (x315.map (cI .i64))))]) (H6 r20o) ?_
    replace h := bsome h; obtain ⟨r316, hr316, h⟩ := h
    refine .callL (d := 90) (p8 N x315 1 r316 hr316) (by simp) rfl rfl (by simp <;> rfl) (by simp <;> rfl) ent8 (by simp <;> rfl) ?_
    refine .st (mk 234 [] (L78 a0 a2 a3 x315 a1 a1.length ++ [(89, .d (.sl (x315.map (cI .i64)))), (90, .i r316)]) (H6 r20o)) ?_
    refine .runK [] 1 fun K k => ?_; simp; refine k _ _ ?_; clear k K
    refine .tt (L78 a0 a2 a3 x315 a1 a1.length ++ [(90, .i r316), (91, .d (.sl (x315.map (cI .i64))))]) (H6 r20o) ?_
    replace h := bsome h; obtain ⟨r317, hr317, h⟩ := h
    refine .callL (d := 92) (p8 N x315 2 r317 hr317) (by simp) rfl rfl (by simp <;> rfl) (by simp <;> rfl) ent8 (by simp <;> rfl) ?_
    refine .st (mk 234 [] (L78 a0 a2 a3 x315 a1 a1.length ++ [(90, .i r316), (91, .d (.sl (x315.map (cI .i64)))), (92, .i r317)]) (H6 r20o)) ?_
    refine .runK [] 2 fun K k => ?_; simp; refine k _ _ ?_; clear k K
    refine .tt [(0, .i a0), (2, .d (.sl (a2.map cS))), (3, .d (.sl (a3.map (cL (cI .i64))))), (14, .ptr 60 0 0), (16, .d (.lit (.pointer none))), (18, .d (.sl (x315.map (cI .i64)))), (19, .i r316), (20, .i r317), (83, .d (.sl (a1.map (cL (cI .i64))))), (84, .i (a1.length : Int)), (85, .i 0)] (H6 r20o) ?_
    refine .nil ?_
    refine .seqR ?_
    refine .runK [] 2 fun K k => ?_; simp; refine k _ _ ?_; clear k K
    refine .tt (L79 a0 a2 a3 x315 r316 r317 a1 a1.length) (H6 r20o) ?_
    refine .nil ?_
    refine .seq ?_
    refine .seqR ?_
    refine .runK [] 1 fun K k => ?_; simp; refine k _ _ ?_; clear k K
    refine .tt (L79 a0 a2 a3 x315 r316 r317 a1 a1.length ++ [(93, .d (.sl (x315.map (cI .i64))))]) (H6 r20o) ?_
    replace h := bsome h; obtain ⟨r318, hr318, h⟩ := h
    refine .callL (d := 94) (p8 N x315 0 r318 hr318) (by simp) rfl rfl (by simp <;> rfl) (by simp <;> rfl) ent8 (by simp <;> rfl) ?_
    refine .st (mk 234 [] (L79 a0 a2 a3 x315 r316 r317 a1 a1.length ++ [(93, .d (.sl (x315.map (cI .i64)))), (94, .i r318)]) (H6 r20o)) ?_
    refine .nil ?_
    refine .block ?_
    cases h
   have c314_ : decide (0 < (a1.length : Int)) = false := decide_eq_false c314
   refine .condF (b := decide (0 < (a1.length : Int))) rfl c314_ ?_
   refine .sub (.bool 86 (b := decide (0 < (a1.length : Int))) rfl c314_) ?_
   refine .st (mk 234 [] (L77 a0 a2 a3 a1 a1.length ++ [(86, .b false)]) (H6 r20o)) ?_
   refine .exit ?_
   cases h
   refine thenQ_pass (by simp) ?_
   refine PostI.out (by simp) ?_
   rintro rfl
   refine blockQ.hit ?_
   refine PostJ.next ?_
   exact Sub.tt
  rintro ⟨⟩ h
  refine thenQ_normal ?_
  refine .seqR ?_
  refine .runK [] 1 fun K k => ?_; simp; refine k _ _ ?_; clear k K
  refine .tt [(8, .b true)] [] ?_
  refine .nil ?_
  refine .ret ?_
  cases h
  exact FinC.ret (by simp) (by simp)
 simp only [hr40o, List.nil_append] at Fr40
 refine .callF Fr40 [] [] [(1000, 82), (25000, 6640), (25001, 6641), (25002, 6642)] [(82, (.box [.ref 6640 0 r40o.Servers.length, .ref 6641 0 r40o.Leaders.length, .ref 6642 0 r40o.Network.length])), (6640, (.nest 68 4 [none, none, some (71, 2), some (3, 1)] (r40o.Servers.map cS68) [])), (6641, (.arr 3 1 (r40o.Leaders.map (cI .i64)))), (6642, (.arr 47 8 (r40o.Network.map cS73)))] (.ptr 82 0 0) (by simp) rfl (by simp <;> rfl) (by simp) (by simp) (by simp) (by simp) (by simp) ent7 (by simp) (by simp) (by simp) (by simp) (by simp) (by simp) ?_
 refine .st (mk 234 [] (L76 a0 a1 a2 a3 ++ [(82, .ptr 82 0 0)]) (H19 r20o r40o)) ?_
 refine .runK [] 1 fun K k => ?_; simp; refine k _ _ ?_; clear k K
 refine .tt (L75 a0 a1 a2 a3 ++ [(16, .ptr 82 0 0)]) (H19 r20o r40o) ?_
 refine .nil ?_
 refine .seq ?_
 refine .seqR ?_
 refine .runK [] 3 fun K k => ?_; simp; refine k _ _ ?_; clear k K
 refine .tt [(0, .i a0), (2, .d (.sl (a2.map cS))), (3, .d (.sl (a3.map (cL (cI .i64))))), (14, .ptr 60 0 0), (16, .ptr 82 0 0), (83, .d (.sl (a1.map (cL (cI .i64))))), (84, .i (a1.length : Int)), (85, .i 0)] (H19 r20o r40o) ?_
 refine .nil ?_
 refine .lastJ (fun (_ : Unit) => mk 234 [] [] []) h ?_ ?_ <;> clear h
 ·intro o h
  refine .block ?_
  refine .iter (fun ((l567, l568, l569, l570, l571, l572, v573) : ((List S61) × (List Int) × (List S73) × (List S68) × (List Int) × (List S73) × Int)) => mk 234 [] (L80 a0 a2 a3 a1 a1.length v573) (H2 l567 l568 l569 l570 l571 l572)) h Sub.tt ?_
  clear h
  rintro ⟨l567, l568, l569, l570, l571, l572, v573⟩ x h
  dsimp only at h ⊢
  refine .seqR ?_
  refine .runK [] 1 fun K k => ?_; simp; refine k _ _ ?_; clear k K
  refine .tt (L80 a0 a2 a3 a1 a1.length v573 ++ [(86, .b (decide (v573 < (a1.length : Int))))]) (H2 l567 l568 l569 l570 l571 l572) ?_
  refine .nil ?_
  refine .seq ?_
  replace h := isome h; rcases h with ⟨c907, h⟩ | ⟨c907, h⟩
  ·have c907_ : decide (v573 < (a1.length : Int)) = true := decide_eq_true c907
   refine .condT (b := decide (v573 < (a1.length : Int))) rfl c907_ ?_
   refine .sub (.bool 86 (b := decide (v573 < (a1.length : Int))) rfl c907_) ?_
   refine .st (mk 234 [] (L80 a0 a2 a3 a1 a1.length v573 ++ [(86, .b true)]) (H2 l567 l568 l569 l570 l571 l572)) ?_
   refine .skip ?_
   refine thenQ_normal ?_
   refine .seq ?_
   refine .block ?_
   refine .seqR ?_
   replace h := bsome h; obtain ⟨x908, hx908, h⟩ := h
   obtain ⟨k909, hx908k, hx908, hx908a, hx908b⟩ := idx_some hx908
   refine .runK [] 3 fun K k => ?_; simp [hx908, hx908k, hx908a]; refine k _ _ ?_; clear k K
   refine .tt (L81 a0 a2 a3 x908 a1 a1.length v573) (H2 l567 l568 l569 l570 l571 l572) ?_
   refine .nil ?_
   refine .seqR ?_
   refine .runK [] 1 fun K k => ?_; simp; refine k _ _ ?_; clear k K
   refine .tt (L81 a0 a2 a3 x908 a1 a1.length v573 ++ [(89, .d (.sl (x908.map (cI .i64))))]) (H2 l567 l568 l569 l570 l571 l572) ?_
   replace h := bsome h; obtain ⟨r910, hr910, h⟩ := h
   refine .callL (d := 90) (p8 N x908 1 r910 hr910) (by simp) rfl rfl (by simp <;> rfl) (by simp <;> rfl) ent8 (by simp <;> rfl) ?_
   refine .st (mk 234 [] (L81 a0 a2 a3 x908 a1 a1.length v573 ++ [(89, .d (.sl (x908.map (cI .i64)))), (90, .i r910)]) (H2 l567 l568 l569 l570 l571 l572)) ?_
   refine .runK [] 1 fun K k => ?_; simp; refine k _ _ ?_; clear k K
   refine .tt (L81 a0 a2 a3 x908 a1 a1.length v573 ++ [(90, .i r910), (91, .d (.sl (x908.map (cI .i64))))]) (H2 l567 l568 l569 l570 l571 l572) ?_
   replace h := bsome h; obtain ⟨r911, hr911, h⟩ := h
   refine .callL (d := 92) (p8 N x908 2 r911 hr911) (by simp) rfl rfl (by simp <;> rfl) (by simp <;> rfl) ent8 (by simp <;> rfl) ?_
   refine .st (mk 234 [] (L81 a0 a2 a3 x908 a1 a1.length v573 ++ [(90, .i r910), (91, .d (.sl (x908.map (cI .i64)))), (92, .i r911)]) (H2 l567 l568 l569 l570 l571 l572)) ?_
   refine .runK [] 2 fun K k => ?_; simp; refine k _ _ ?_; clear k K
   refine .tt [(0, .i a0), (2, .d (.sl (a2.map cS))), (3, .d (.sl (a3.map (cL (cI .i64))))), (14, .ptr 60 0 0), (16, .ptr 82 0 0), (18, .d (.sl (x908.map (cI .i64)))), (19, .i r910), (20, .i r911), (83, .d (.sl (a1.map (cL (cI .i64))))), (84, .i (a1.length : Int)), (85, .i v573)] (H2 l567 l568 l569 l570 l571 l572) ?_
   refine .nil ?_
   refine .seqR ?_
   refine .runK [] 2 fun K k => ?_; simp; refine k _ _ ?_; clear k K
   refine .tt (L82 a0 a2 a3 x908 r910 r911 a1 a1.length v573) (H2 l567 l568 l569 l570 l571 l572) ?_
   refine .nil ?_
   refine .seq ?_
   refine .seqR ?_
   refine .runK [] 1 fun K k => ?_; simp; refine k _ _ ?_; clear k K
   refine .tt (L82 a0 a2 a3 x908 r910 r911 a1 a1.length v573 ++ [(93, .d (.sl (x908.map (cI .i64))))]) (H2 l567 l568 l569 l570 l571 l572) ?_
   replace h := bsome h; obtain ⟨r912, hr912, h⟩ := h
   refine .callL (d := 94) (p8 N x908 0 r912 hr912) (by simp) rfl rfl (by simp <;> rfl) (by simp <;> rfl) ent8 (by simp <;> rfl) ?_
   refine .st (mk 234 [] (L82 a0 a2 a3 x908 r910 r911 a1 a1.length v573 ++ [(93, .d (.sl (x908.map (cI .i64)))), (94, .i r912)]) (H2 l567 l568 l569 l570 l571 l572)) ?_
   refine .nil ?_
   refine .block ?_
   refine .seqR ?_
   refine .runK [] 2 fun K k => ?_; simp; refine k _ _ ?_; clear k K
   refine .tt (L83 a0 a2 a3 x908 r910 r911 a1 a1.length v573 r912 ++ [(95, .b (r912 == 1))]) (H2 l567 l568 l569 l570 l571 l572) ?_
   refine .nil ?_
   refine .lastN (fun ((l981, l982, l983, l984, l985, l986, v987, v988) : ((List S61) × (List Int) × (List S73) × (List S68) × (List Int) × (List S73) × Int × Int)) => mk 234 [] (L84 a0 a2 a3 v987 v988 a1 a1.length v573) (H2 l981 l982 l983 l984 l985 l986)) h ?_ ?_ <;> clear h
   ·intro o h
    replace h := isome h; rcases h with ⟨c989, h⟩ | ⟨c989, h⟩
    ·have c989_ : (r912 == 1) = true := c989
     refine .condT (b := (r912 == 1)) rfl c989_ ?_
     refine .sub (.bool 95 (b := (r912 == 1)) rfl c989_) ?_
     refine .st (mk 234 [] (L83 a0 a2 a3 x908 r910 r911 a1 a1.length v573 r912 ++ [(95, .b true)]) (H2 l567 l568 l569 l570 l571 l572)) ?_
     refine .seqR ?_
     refine .runK [] 2 fun K k => ?_; simp; refine k _ _ ?_; clear k K
     refine .tt (L85 a0 a2 a3 r910 a1 a1.length v573 ++ [(97, .d (.sl (a2.map cS))), (98, .i r911)]) (H2 l567 l568 l569 l570 l571 l572) ?_
     replace h := bsome h; obtain ⟨r990, hr990, h⟩ := h
     refine .callL (d := 99) (p9 N a2 r911 r990 hr990) (by simp) rfl rfl (by simp <;> rfl) (by simp <;> rfl) ent9 (by simp <;> rfl) ?_
     refine .st (mk 234 [] (L85 a0 a2 a3 r910 a1 a1.length v573 ++ [(97, .d (.sl (a2.map cS))), (98, .i r911), (99, .d (.lit (.string r990)))]) (H2 l567 l568 l569 l570 l571 l572)) ?_
     refine .runK [] 1 fun K k => ?_; simp; refine k _ _ ?_; clear k K
     refine .tt (L86 a0 a2 a3 r910 r990 a1 a1.length v573) (H2 l567 l568 l569 l570 l571 l572) ?_
     refine .nil ?_
     refine .region ?_
     refine .runK [] 3 fun K k => ?_; simp; refine k _ _ ?_; clear k K
     refine .tt (L86 a0 a2 a3 r910 r990 a1 a1.length v573 ++ [(100, .ptr 60 0 0), (101, .i r910), (102, .d (.lit (.string r990)))]) (H2 l567 l568 l569 l570 l571 l572) ?_
     replace h := bsome h; obtain ⟨r991, hr991, h⟩ := h
     refine .callF (p5 N (S59.mk l567 l568 l569) r910 r990 r991 hr991) [(60, 1000), (6200, 25000), (6201, 25001), (6202, 25002)] [60] [(1000, 60), (25000, 6200), (25001, 6201), (25002, 6202)] [(60, (.box [.ref 6200 0 r991.1.servers.length, .ref 6201 0 r991.1.leaders.length, .ref 6202 0 r991.1.network.length])), (6200, (.nest 61 4 [none, none, some (64, 2), some (3, 1)] (r991.1.servers.map cS61) [])), (6201, (.arr 3 1 (r991.1.leaders.map (cI .i64)))), (6202, (.arr 73 8 (r991.1.network.map cS73)))] (.i r991.2) (by simp) rfl (by simp <;> rfl) (by simp) (by simp) (by simp) (by simp) (by simp) ent5 (by simp) (by simp) (by simp) (by simp) (by simp) (by simp) ?_
     refine .st (mk 234 [] (L86 a0 a2 a3 r910 r990 a1 a1.length v573 ++ [(100, .ptr 60 0 0), (101, .i r910), (102, .d (.lit (.string r990))), (103, .i r991.2)]) (H7 r991.1 l570 l571 l572)) ?_
     refine .runK [] 3 fun K k => ?_; simp; refine k _ _ ?_; clear k K
     refine .tt (L80 a0 a2 a3 a1 a1.length v573 ++ [(103, .i r991.2), (104, .ptr 82 0 0), (105, .i r910), (106, .d (.lit (.string r990)))]) (H7 r991.1 l570 l571 l572) ?_
     replace h := bsome h; obtain ⟨r992, hr992, h⟩ := h
     refine .callF (p10 N (S44.mk l570 l571 l572) r910 r990 r992 hr992) [(82, 1000), (6640, 25000), (6641, 25001), (6642, 25002)] [82] [(1000, 82), (25000, 6640), (25001, 6641), (25002, 6642)] [(82, (.box [.ref 6640 0 r992.1.Servers.length, .ref 6641 0 r992.1.Leaders.length, .ref 6642 0 r992.1.Network.length])), (6640, (.nest 68 4 [none, none, some (71, 2), some (3, 1)] (r992.1.Servers.map cS68) [])), (6641, (.arr 3 1 (r992.1.Leaders.map (cI .i64)))), (6642, (.arr 47 8 (r992.1.Network.map cS73)))] (.i r992.2) (by simp) rfl (by simp <;> rfl) (by simp) (by simp) (by simp) (by simp) (by simp) ent10 (by simp) (by simp) (by simp) (by simp) (by simp) (by simp) ?_
     refine .st (mk 234 [] (L80 a0 a2 a3 a1 a1.length v573 ++ [(103, .i r991.2), (104, .ptr 82 0 0), (105, .i r910), (106, .d (.lit (.string r990))), (107, .i r992.2)]) (H19 r991.1 r992.1)) ?_
     refine .runK [] 2 fun K k => ?_; simp; refine k _ _ ?_; clear k K
     refine .tt (L84 a0 a2 a3 r991.2 r992.2 a1 a1.length v573) (H19 r991.1 r992.1) ?_
     refine .nil ?_
     cases h
     refine PostN.next ?_
     exact Sub.tt
    have c989_ : (r912 == 1) = false := Bool.eq_false_iff.2 c989
    refine .condF (b := (r912 == 1)) rfl c989_ ?_
    refine .sub (.bool 95 (b := (r912 == 1)) rfl c989_) ?_
    refine .st (mk 234 [] (L83 a0 a2 a3 x908 r910 r911 a1 a1.length v573 r912 ++ [(95, .b false)]) (H2 l567 l568 l569 l570 l571 l572)) ?_
    refine .seqR ?_
    refine .runK [] 2 fun K k => ?_; simp; refine k _ _ ?_; clear k K
    refine .tt (L83 a0 a2 a3 x908 r910 r911 a1 a1.length v573 r912 ++ [(108, .b (r912 == 2))]) (H2 l567 l568 l569 l570 l571 l572) ?_
    refine .nil ?_
    replace h := isome h; rcases h with ⟨c993, h⟩ | ⟨c993, h⟩
    ·have c993_ : (r912 == 2) = true := c993
     refine .condT (b := (r912 == 2)) rfl c993_ ?_
     refine .sub (.bool 108 (b := (r912 == 2)) rfl c993_) ?_
     refine .st (mk 234 [] (L83 a0 a2 a3 x908 r910 r911 a1 a1.length v573 r912 ++ [(108, .b true)]) (H2 l567 l568 l569 l570 l571 l572)) ?_
     refine .seqR ?_
     refine .runK [] 3 fun K k => ?_; simp; refine k _ _ ?_; clear k K
     refine .tt [(0, .i a0), (2, .d (.sl (a2.map cS))), (3, .d (.sl (a3.map (cL (cI .i64))))), (14, .ptr 60 0 0), (16, .ptr 82 0 0), (19, .i r910), (20, .i r911), (22, .i 0), (83, .d (.sl (a1.map (cL (cI .i64))))), (84, .i (a1.length : Int)), (85, .i v573), (110, .ptr 60 0 0), (111, .i r910), (112, .i r911)] (H2 l567 l568 l569 l570 l571 l572) ?_
     replace h := bsome h; obtain ⟨r994, hr994, h⟩ := h
     refine .callF (p11 N (S59.mk l567 l568 l569) r910 r911 r994 hr994) [(60, 1000), (6200, 25000), (6201, 25001), (6202, 25002)] [60] [(1000, 60), (25000, 6200), (25001, 6201), (25002, 6202)] [(60, (.box [.ref 6200 0 r994.1.servers.length, .ref 6201 0 r994.1.leaders.length, .ref 6202 0 r994.1.network.length])), (6200, (.nest 61 4 [none, none, some (64, 2), some (3, 1)] (r994.1.servers.map cS61) [])), (6201, (.arr 3 1 (r994.1.leaders.map (cI .i64)))), (6202, (.arr 73 8 (r994.1.network.map cS73)))] (.i r994.2) (by simp) rfl (by simp <;> rfl) (by simp) (by simp) (by simp) (by simp) (by simp) ent11 (by simp) (by simp) (by simp) (by simp) (by simp) (by simp) ?_
     refine .st (mk 234 [] [(0, .i a0), (2, .d (.sl (a2.map cS))), (3, .d (.sl (a3.map (cL (cI .i64))))), (14, .ptr 60 0 0), (16, .ptr 82 0 0), (19, .i r910), (20, .i r911), (22, .i 0), (83, .d (.sl (a1.map (cL (cI .i64))))), (84, .i (a1.length : Int)), (85, .i v573), (110, .ptr 60 0 0), (111, .i r910), (112, .i r911), (113, .i r994.2)] (H7 r994.1 l570 l571 l572)) ?_
     refine .runK [] 1 fun K k => ?_; simp; refine k _ _ ?_; clear k K
     refine .tt (L87 a0 a2 a3 r910 r911 r994.2 a1 a1.length v573) (H7 r994.1 l570 l571 l572) ?_
     refine .nil ?_
     refine .block ?_
     replace h := bsome h; obtain ⟨v1001, hj, h⟩ := h
     refine .cutR (mk 234 [] (L87 a0 a2 a3 r910 r911 r994.2 a1 a1.length v573 ++ [(127, .b v1001)]) (H7 r994.1 l570 l571 l572)) ?_ ?_
     ·clear h; have h := hj; clear hj
      replace h := bsome h; obtain ⟨v1002, hv1002, h⟩ := h
      have hv1002 := chkI_some hv1002
      refine .runK [] 3 fun K k => ?_; simp [hv1002]; refine k _ _ ?_; clear k K
      refine .tt (L87 a0 a2 a3 r910 r911 r994.2 a1 a1.length v573 ++ [(128, .i r910), (130, .i v1002)]) (H7 r994.1 l570 l571 l572) ?_
      replace h := bsome h; obtain ⟨r1003, hr1003, h⟩ := h
      refine .callL (d := 131) (p12 N r910 0 v1002 r1003 hr1003) (by simp) rfl rfl (by simp <;> rfl) (by simp <;> rfl) ent12 (by simp <;> rfl) ?_
      refine .st (mk 234 [] (L87 a0 a2 a3 r910 r911 r994.2 a1 a1.length v573 ++ [(128, .i r910), (130, .i v1002), (131, .b r1003)]) (H7 r994.1 l570 l571 l572)) ?_
      refine .runK [] 2 fun K k => ?_; simp; refine k _ _ ?_; clear k K
      refine .tt (L87 a0 a2 a3 r910 r911 r994.2 a1 a1.length v573 ++ [(133, .b (!r1003))]) (H7 r994.1 l570 l571 l572) ?_
      replace h := isome h; rcases h with ⟨c1004, h⟩ | ⟨c1004, h⟩
      ·have c1004_ : (!r1003) = true := c1004
       refine .sub (.bool 133 (b := (!r1003)) rfl c1004_) ?_
       refine .st (mk 234 [] (L87 a0 a2 a3 r910 r911 r994.2 a1 a1.length v573 ++ [(133, .b true)]) (H7 r994.1 l570 l571 l572)) ?_
       refine .runK [] 12 fun K k => ?_; simp; refine k _ _ ?_; clear k K
       refine .tt (L88 a0 a2 a3 r910 r911 r994.2 a1 a1.length v573 ++ [(134, .tup []), (135, .tup []), (136, .tup []), (137, .tup []), (138, .tup []), (141, .tup []), (142, .tup []), (143, .tup [])]) (H7 r994.1 l570 l571 l572) ?_
       cases h
       exact .nil .tt
      have c1004_ : (!r1003) = false := Bool.eq_false_iff.2 c1004
      refine .sub (.bool 133 (b := (!r1003)) rfl c1004_) ?_
      refine .st (mk 234 [] (L89 a0 a2 a3 r910 r911 r994.2 a1 a1.length v573) (H7 r994.1 l570 l571 l572)) ?_
      replace h := bsome h; obtain ⟨v1005, hv1005, h⟩ := h
      have hv1005 := chkI_some hv1005
      refine .runK [] 3 fun K k => ?_; simp [hv1005]; refine k _ _ ?_; clear k K
      refine .tt (L89 a0 a2 a3 r910 r911 r994.2 a1 a1.length v573 ++ [(134, .i r911), (135, .i a0), (136, .i v1005)]) (H7 r994.1 l570 l571 l572) ?_
      replace h := bsome h; obtain ⟨r1006, hr1006, h⟩ := h
      refine .callL (d := 137) (p12 N r911 0 v1005 r1006 hr1006) (by simp) rfl rfl (by simp <;> rfl) (by simp <;> rfl) ent12 (by simp <;> rfl) ?_
      refine .st (mk 234 [] (L89 a0 a2 a3 r910 r911 r994.2 a1 a1.length v573 ++ [(134, .i r911), (135, .i a0), (136, .i v1005), (137, .b r1006)]) (H7 r994.1 l570 l571 l572)) ?_
      refine .runK [] 3 fun K k => ?_; simp; refine k _ _ ?_; clear k K
      refine .tt (L90 a0 a2 a3 r910 r911 r994.2 a1 a1.length v573 v1005 r1006 ++ [(138, .b (!r1006)), (140, .b (!r1006))]) (H7 r994.1 l570 l571 l572) ?_
      replace h := isome h; rcases h with ⟨c1007, h⟩ | ⟨c1007, h⟩
      ·have c1007_ : (!r1006) = true := c1007
       refine .sub (.bool 138 (b := (!r1006)) rfl c1007_) ?_
       refine .sub (.bool 140 (b := (!r1006)) rfl c1007_) ?_
       refine .st (mk 234 [] (L90 a0 a2 a3 r910 r911 r994.2 a1 a1.length v573 v1005 r1006 ++ [(138, .b true), (140, .b true)]) (H7 r994.1 l570 l571 l572)) ?_
       refine .runK [] 5 fun K k => ?_; simp; refine k _ _ ?_; clear k K
       refine .tt (L88 a0 a2 a3 r910 r911 r994.2 a1 a1.length v573 ++ [(134, .i r911), (135, .i a0), (136, .i v1005), (137, .b r1006), (138, .b true), (141, .tup []), (142, .tup []), (143, .tup [])]) (H7 r994.1 l570 l571 l572) ?_
       cases h
       exact .nil .tt
      have c1007_ : (!r1006) = false := Bool.eq_false_iff.2 c1007
      refine .sub (.bool 138 (b := (!r1006)) rfl c1007_) ?_
      refine .sub (.bool 140 (b := (!r1006)) rfl c1007_) ?_
      refine .st (mk 234 [] (L90 a0 a2 a3 r910 r911 r994.2 a1 a1.length v573 v1005 r1006 ++ [(138, .b false), (140, .b false)]) (H7 r994.1 l570 l571 l572)) ?_
      refine .runK [] 5 fun K k => ?_; simp; refine k _ _ ?_; clear k K
      refine .tt (L87 a0 a2 a3 r910 r911 r994.2 a1 a1.length v573 ++ [(127, .b (r910 == r911)), (134, .i r911), (135, .i a0), (136, .i v1005), (137, .b r1006), (138, .b false), (141, .i r910), (142, .i r911), (143, .b (r910 == r911))]) (H7 r994.1 l570 l571 l572) ?_
      cases h
      exact .nil .tt
     clear hj
     replace h := isome h; rcases h with ⟨c1008, h⟩ | ⟨c1008, h⟩
     ·have c1008_ : v1001 = true := c1008
      refine .condT (b := v1001) rfl c1008_ ?_
      refine .sub (.bool 127 (b := v1001) rfl c1008_) ?_
      refine .st (mk 234 [] (L88 a0 a2 a3 r910 r911 r994.2 a1 a1.length v573) (H7 r994.1 l570 l571 l572)) ?_
      refine .region ?_
      refine .runK [] 1 fun K k => ?_; simp; refine k _ _ ?_; clear k K
      refine .tt (L91 a0 a2 a3 r994.2 ++ [(22, .i 1), (83, .d (.sl (a1.map (cL (cI .i64))))), (84, .i (a1.length : Int)), (85, .i v573)]) (H7 r994.1 l570 l571 l572) ?_
      refine .nil ?_
      cases h
      refine blockQ.normal ?_
      refine PostN.next ?_
      exact Sub.tt
     have c1008_ : v1001 = false := Bool.eq_false_iff.2 c1008
     refine .condF (b := v1001) rfl c1008_ ?_
     refine .sub (.bool 127 (b := v1001) rfl c1008_) ?_
     refine .st (mk 234 [] (L87 a0 a2 a3 r910 r911 r994.2 a1 a1.length v573 ++ [(127, .b false)]) (H7 r994.1 l570 l571 l572)) ?_
     refine .seqR ?_
     refine .runK [] 2 fun K k => ?_; simp; refine k _ _ ?_; clear k K
     refine .tt (L87 a0 a2 a3 r910 r911 r994.2 a1 a1.length v573 ++ [(146, .ptr 82 0 0), (147, .i r910)]) (H7 r994.1 l570 l571 l572) ?_
     replace h := bsome h; obtain ⟨r1009, hr1009, h⟩ := h
     refine .callL (d := 148) (p13 N (S44.mk l570 l571 l572) r910 r1009 hr1009) (by simp) rfl rfl (by simp <;> rfl) (by simp <;> rfl) ent13 (by simp <;> rfl) ?_
     refine .st (mk 234 [] (L87 a0 a2 a3 r910 r911 r994.2 a1 a1.length v573 ++ [(146, .ptr 82 0 0), (147, .i r910), (148, .b r1009)]) (H7 r994.1 l570 l571 l572)) ?_
     refine .runK [] 2 fun K k => ?_; simp; refine k _ _ ?_; clear k K
     refine .tt (L87 a0 a2 a3 r910 r911 r994.2 a1 a1.length v573 ++ [(145, .b (!r1009))]) (H7 r994.1 l570 l571 l572) ?_
     refine .nil ?_
     replace h := isome h; rcases h with ⟨c1010, h⟩ | ⟨c1010, h⟩
     ·have c1010_ : (!r1009) = true := c1010
      refine .condT (b := (!r1009)) rfl c1010_ ?_
      refine .sub (.bool 145 (b := (!r1009)) rfl c1010_) ?_
      refine .st (mk 234 [] (L87 a0 a2 a3 r910 r911 r994.2 a1 a1.length v573 ++ [(145, .b true)]) (H7 r994.1 l570 l571 l572)) ?_
      refine .region ?_
      refine .runK [] 1 fun K k => ?_; simp; refine k _ _ ?_; clear k K
      refine .tt (L91 a0 a2 a3 r994.2 ++ [(22, .i 15), (83, .d (.sl (a1.map (cL (cI .i64))))), (84, .i (a1.length : Int)), (85, .i v573)]) (H7 r994.1 l570 l571 l572) ?_
      refine .nil ?_
      cases h
      refine blockQ.normal ?_
      refine PostN.next ?_
      exact Sub.tt
     have c1010_ : (!r1009) = false := Bool.eq_false_iff.2 c1010
     refine .condF (b := (!r1009)) rfl c1010_ ?_
     refine .sub (.bool 145 (b := (!r1009)) rfl c1010_) ?_
     refine .st (mk 234 [] (L87 a0 a2 a3 r910 r911 r994.2 a1 a1.length v573 ++ [(145, .b false)]) (H7 r994.1 l570 l571 l572)) ?_
     refine .seqR ?_
     refine .runK [] 7 fun K k => ?_; simp; refine k _ _ ?_; clear k K
     refine .tt (L87 a0 a2 a3 r910 r911 r994.2 a1 a1.length v573 ++ [(150, .b (decide ((l572.length : Int) ≥ 100)))]) (H7 r994.1 l570 l571 l572) ?_
     refine .nil ?_
     replace h := isome h; rcases h with ⟨c1011, h⟩ | ⟨c1011, h⟩
     ·have c1011_ : decide ((l572.length : Int) ≥ 100) = true := decide_eq_true c1011
      refine .condT (b := decide ((l572.length : Int) ≥ 100)) rfl c1011_ ?_
      refine .sub (.bool 150 (b := decide ((l572.length : Int) ≥ 100)) rfl c1011_) ?_
      refine .st (mk 234 [] (L87 a0 a2 a3 r910 r911 r994.2 a1 a1.length v573 ++ [(150, .b true)]) (H7 r994.1 l570 l571 l572)) ?_
      refine .region ?_
      refine .runK [] 1 fun K k => ?_; simp; refine k _ _ ?_; clear k K
      refine .tt (L91 a0 a2 a3 r994.2 ++ [(22, .i 18), (83, .d (.sl (a1.map (cL (cI .i64))))), (84, .i (a1.length : Int)), (85, .i v573)]) (H7 r994.1 l570 l571 l572) ?_
      refine .nil ?_
      cases h
      refine blockQ.normal ?_
      refine PostN.next ?_
      exact Sub.tt
     have c1011_ : decide ((l572.length : Int) ≥ 100) = false := decide_eq_false c1011
     refine .condF (b := decide ((l572.length : Int) ≥ 100)) rfl c1011_ ?_
     refine .sub (.bool 150 (b := decide ((l572.length : Int) ≥ 100)) rfl c1011_) ?_
     refine .st (mk 234 [] (L87 a0 a2 a3 r910 r911 r994.2 a1 a1.length v573 ++ [(150, .b false)]) (H7 r994.1 l570 l571 l572)) ?_
     replace h := bsome h; obtain ⟨r1012, hr1012, h⟩ := h
     replace h := bsome h; obtain ⟨l1013, hl1013, h⟩ := h
     obtain ⟨hl1013a, hl1013⟩ := appL_some hl1013
     subst hl1013
     try simp only [List.length_cons, List.length_nil, Nat.zero_add] at hl1013a
     refine .lastAnyS [[], [], [1], [1, 2], [1, 2, 3], [], [], [], [5, 6, 7], [5, 6, 7, 8], [1, 2, 3, 4, 5, 6, 7, 8, 9], [0, 1, 2, 3, 4, 5, 6, 7, 8, 9, 10], [0, 1, 2, 3, 4, 5, 6, 7, 8, 9, 10, 11], [0, 1, 2, 3, 4, 5, 6, 7, 8, 9, 10, 11, 12]] (fun (b : Nat → Bool) => mk 234 [] [(0, .i a0), (2, .d (.sl (a2.map cS))), (3, .d (.sl (a3.map (cL (cI .i64))))), (14, .ptr 60 0 0), (16, .ptr 82 0 0), (19, .i r910), (20, .i r911), (21, .i r994.2), (22, .i 0), (83, .d (.sl (a1.map (cL (cI .i64))))), (84, .i (a1.length : Int)), (85, .i v573), (114, (if b 0 then .ptr 82 0 0 else .junk)), (115, (if b 1 then .ptr 82 0 0 else .junk)), (116, (if b 2 then .ptr 82 0 0 else .junk)), (117, (if b 3 then .ptr 82 0 2 else .junk)), (118, (if b 10 then .junk else (if b 4 then .ref 6642 0 l572.length else .junk))), (119, (if b 5 then .ptr 82 0 0 else .junk)), (120, (if b 6 then .i r910 else .junk)), (121, (if b 7 then .i r911 else .junk)), (122, (if b 8 then .agg [.i r1012.Kind, .i r1012.From, .i r1012.To, .i r1012.Term, .i r1012.Index, .i r1012.PrevTerm, .i r1012.Commit, .d (.sl (r1012.Entries.map cS64))] else .junk)), (123, (if b 9 then .d (.sl ([r1012].map cS73)) else .junk)), (124, (if b 10 then .ref 6642 0 ((l572 ++ [r1012]).length) else .junk)), (125, (if b 11 then .ptr 82 0 0 else .junk)), (126, (if b 12 then .ptr 82 0 2 else .junk))] [(60, some (.box [.ref 6200 0 r994.1.servers.length, .ref 6201 0 r994.1.leaders.length, .ref 6202 0 r994.1.network.length])), (82, (if b 13 then some (.box [.ref 6640 0 l570.length, .ref 6641 0 l571.length, .ref 6642 0 ((l572 ++ [r1012]).length)]) else (if b 10 then some (.box [.ref 6640 0 l570.length, .ref 6641 0 l571.length, .hole]) else some (.box [.ref 6640 0 l570.length, .ref 6641 0 l571.length, .ref 6642 0 l572.length])))), (6200, some (.nest 61 4 [none, none, some (64, 2), some (3, 1)] (r994.1.servers.map cS61) [])), (6201, R3 r994.1.leaders), (6202, R73 r994.1.network), (6640, some (.nest 68 4 [none, none, some (71, 2), some (3, 1)] (l570.map cS68) [])), (6641, R3 l571), (6642, (if b 10 then R47 (l572 ++ [r1012]) else R47 l572))]) (mk 234 [] (L92 a0 a2 a3 r994.2 a1 a1.length v573) [(60, some (.box [.ref 6200 0 r994.1.servers.length, .ref 6201 0 r994.1.leaders.length, .ref 6202 0 r994.1.network.length])), (82, some (.box [.ref 6640 0 l570.length, .ref 6641 0 l571.length, .ref 6642 0 ((l572 ++ [r1012]).length)])), (6200, some (.nest 61 4 [none, none, some (64, 2), some (3, 1)] (r994.1.servers.map cS61) [])), (6201, R3 r994.1.leaders), (6202, R73 r994.1.network), (6640, some (.nest 68 4 [none, none, some (71, 2), some (3, 1)] (l570.map cS68) [])), (6641, R3 l571), (6642, R47 (l572 ++ [r1012]))]) (by kernel_rfl) (by kernel_rfl) Sub.tt (Steps.cons ?_ (Steps.cons ?_ (Steps.cons ?_ (Steps.cons ?_ (Steps.cons ?_ (Steps.cons ?_ (Steps.cons ?_ (Steps.cons ?_ (Steps.cons ?_ (Steps.cons ?_ (Steps.cons ?_ (Steps.cons ?_ (Steps.cons ?_ (Steps.cons ?_ (Steps.nil))))))))))))))) ?_ ?_
     iterate 8
      ·intro b h0 ha hd
       have T := fct h0 ha hd; simp at T
       refine .runK [123] 1 fun K k => ?_; simp [T]; refine k _ _ ?_; clear k K
       exact .nil (.table (by simp [T]) (by simp [T]))
     ·intro b h0 ha hd
      have T := fct h0 ha hd; simp at T
      simp only [T, if_true, if_false, Bool.false_eq_true]
      refine .callFr (d := 122) (p14 N (S44.mk l570 l571 l572) r910 r911 r1012 hr1012) (by simp) rfl rfl (by simp <;> rfl) (by simp <;> rfl) ent14 (by simp) ?_
      exact .nil (by simp [T]; exact Sub.table (by simp) (by simp))
     ·intro b h0 ha hd
      have T := fct h0 ha hd; simp at T
      refine .runK [123] 1 fun K k => ?_; simp [T]; refine k _ _ ?_; clear k K
      exact .nil (.table (by simp [T]) (by simp [T]))
     ·intro b h0 ha hd
      have T := fct h0 ha hd; simp at T
      refine .runK [123] 1 fun K k => ?_; simp [T, hl1013a]; refine k _ _ ?_; clear k K
      exact .nil (.table (by simp [T]) (by simp [T]))
     iterate 3
      ·intro b h0 ha hd
       have T := fct h0 ha hd; simp at T
       refine .runK [123] 1 fun K k => ?_; simp [T]; refine k _ _ ?_; clear k K
       exact .nil (.table (by simp [T]) (by simp [T]))
     ·intro b hb
      have t0 := hb 0 (by decide)
      have t1 := hb 1 (by decide)
      have t2 := hb 2 (by decide)
      have t3 := hb 3 (by decide)
      have t4 := hb 4 (by decide)
      have t5 := hb 5 (by decide)
      have t6 := hb 6 (by decide)
      have t7 := hb 7 (by decide)
      have t8 := hb 8 (by decide)
      have t9 := hb 9 (by decide)
      have t10 := hb 10 (by decide)
      have t11 := hb 11 (by decide)
      have t12 := hb 12 (by decide)
      have t13 := hb 13 (by decide)
      exact Sub.table (by simp [t0, t1, t2, t3, t5, t6, t7, t8, t9, t10, t11, t12]) (by simp [t10, t13])
     skip
     cases h
     refine blockQ.normal ?_
     refine PostN.next ?_
     exact Sub.tt
    have c993_ : (r912 == 2) = false := Bool.eq_false_iff.2 c993
    refine .condF (b := (r912 == 2)) rfl c993_ ?_
    refine .sub (.bool 108 (b := (r912 == 2)) rfl c993_) ?_
    refine .st (mk 234 [] (L83 a0 a2 a3 x908 r910 r911 a1 a1.length v573 r912 ++ [(108, .b false)]) (H2 l567 l568 l569 l570 l571 l572)) ?_
    refine .seq ?_
    refine .seqR ?_
    refine .runK [] 2 fun K k => ?_; simp; refine k _ _ ?_; clear k K
    refine .tt (L83 a0 a2 a3 x908 r910 r911 a1 a1.length v573 r912 ++ [(157, .b (r912 == 3))]) (H2 l567 l568 l569 l570 l571 l572) ?_
    refine .nil ?_
    refine .lastN (fun (v1015 : Bool) => mk 234 [] (L83 a0 a2 a3 x908 r910 r911 a1 a1.length v573 r912 ++ [(157, .b v1015)]) (H2 l567 l568 l569 l570 l571 l572)) h ?_ ?_ <;> clear h
    ·intro o h
     replace h := isome h; rcases h with ⟨c1016, h⟩ | ⟨c1016, h⟩
     ·have c1016_ : (r912 == 3) = true := c1016
      refine .condT (b := (r912 == 3)) rfl c1016_ ?_
      refine .sub (.bool 157 (b := (r912 == 3)) rfl c1016_) ?_
      refine .st (mk 234 [] (L83 a0 a2 a3 x908 r910 r911 a1 a1.length v573 r912 ++ [(157, .b true)]) (H2 l567 l568 l569 l570 l571 l572)) ?_
      refine .skip ?_
      cases h
      refine PostN.next ?_
      exact Sub.tt
     have c1016_ : (r912 == 3) = false := Bool.eq_false_iff.2 c1016
     refine .condF (b := (r912 == 3)) rfl c1016_ ?_
     refine .sub (.bool 157 (b := (r912 == 3)) rfl c1016_) ?_
     refine .st (mk 234 [] (L83 a0 a2 a3 x908 r910 r911 a1 a1.length v573 r912 ++ [(157, .b false)]) (H2 l567 l568 l569 l570 l571 l572)) ?_
     refine .region ?_
     refine .runK [] 2 fun K k => ?_; simp; refine k _ _ ?_; clear k K
     refine .tt (L83 a0 a2 a3 x908 r910 r911 a1 a1.length v573 r912 ++ [(157, .b (r912 == 4))]) (H2 l567 l568 l569 l570 l571 l572) ?_
     refine .nil ?_
     cases h
     refine PostN.next ?_
     exact Sub.tt
    rintro v1015 h
    refine thenQ_normal ?_
    replace h := isome h; rcases h with ⟨c1017, h⟩ | ⟨c1017, h⟩
    ·have c1017_ : v1015 = true := c1017
     refine .condT (b := v1015) rfl c1017_ ?_
     refine .sub (.bool 157 (b := v1015) rfl c1017_) ?_
     refine .st (mk 234 [] (L83 a0 a2 a3 x908 r910 r911 a1 a1.length v573 r912 ++ [(157, .b true)]) (H2 l567 l568 l569 l570 l571 l572)) ?_
     refine .seqR ?_
     refine .runK [] 1 fun K k => ?_; simp; refine k _ _ ?_; clear k K
     refine .tt (L85 a0 a2 a3 r910 a1 a1.length v573 ++ [(160, .d (.sl (x908.map (cI .i64))))]) (H2 l567 l568 l569 l570 l571 l572) ?_
     replace h := bsome h; obtain ⟨r1018, hr1018, h⟩ := h
     refine .callL (d := 161) (p8 N x908 0 r1018 hr1018) (by simp) rfl rfl (by simp <;> rfl) (by simp <;> rfl) ent8 (by simp <;> rfl) ?_
     refine .st (mk 234 [] (L85 a0 a2 a3 r910 a1 a1.length v573 ++ [(160, .d (.sl (x908.map (cI .i64)))), (161, .i r1018)]) (H2 l567 l568 l569 l570 l571 l572)) ?_
     refine .runK [] 2 fun K k => ?_; simp; refine k _ _ ?_; clear k K
     refine .tt [(0, .i a0), (2, .d (.sl (a2.map cS))), (3, .d (.sl (a3.map (cL (cI .i64))))), (14, .ptr 60 0 0), (16, .ptr 82 0 0), (19, .i r910), (24, .b (r1018 == 3)), (83, .d (.sl (a1.map (cL (cI .i64))))), (84, .i (a1.length : Int)), (85, .i v573)] (H2 l567 l568 l569 l570 l571 l572) ?_
     refine .nil ?_
     refine .seq ?_
     refine .seqR ?_
     refine .runK [] 1 fun K k => ?_; simp; refine k _ _ ?_; clear k K
     refine .tt [(0, .i a0), (2, .d (.sl (a2.map cS))), (3, .d (.sl (a3.map (cL (cI .i64))))), (14, .ptr 60 0 0), (16, .ptr 82 0 0), (19, .i r910), (24, .b (r1018 == 3)), (83, .d (.sl (a1.map (cL (cI .i64))))), (84, .i (a1.length : Int)), (85, .i v573), (163, .b (r1018 == 3))] (H2 l567 l568 l569 l570 l571 l572) ?_
     refine .nil ?_
     refine .lastN (fun ((l1022, l1023, l1024, v1025, v1026) : ((List S61) × (List Int) × (List S73) × Int × Bool)) => mk 234 [] (L93 a0 a2 a3 r910 v1025 ++ [(24, .b v1026), (83, .d (.sl (a1.map (cL (cI .i64))))), (84, .i (a1.length : Int)), (85, .i v573)]) (H2 l1022 l1023 l1024 l570 l571 l572)) h ?_ ?_ <;> clear h
     ·intro o h
      replace h := isome h; rcases h with ⟨c1027, h⟩ | ⟨c1027, h⟩
      ·have c1027_ : (r1018 == 3) = true := c1027
       refine .condT (b := (r1018 == 3)) rfl c1027_ ?_
       refine .sub (.bool 24 (b := (r1018 == 3)) rfl c1027_) ?_
       refine .sub (.bool 163 (b := (r1018 == 3)) rfl c1027_) ?_
       refine .st (mk 234 [] (L94 a0 a2 a3 r910 a1 a1.length v573 ++ [(163, .b true)]) (H2 l567 l568 l569 l570 l571 l572)) ?_
       refine .region ?_
       refine .runK [] 2 fun K k => ?_; simp; refine k _ _ ?_; clear k K
       refine .tt (L94 a0 a2 a3 r910 a1 a1.length v573 ++ [(164, .ptr 60 0 0), (165, .i r910)]) (H2 l567 l568 l569 l570 l571 l572) ?_
       replace h := bsome h; obtain ⟨r1028, hr1028, h⟩ := h
       refine .callF (p15 N (S59.mk l567 l568 l569) r910 r1028 hr1028) [(60, 1000), (6200, 25000), (6201, 25001), (6202, 25002)] [60] [(1000, 60), (25000, 6200), (25001, 6201), (25002, 6202)] [(60, (.box [.ref 6200 0 r1028.1.servers.length, .ref 6201 0 r1028.1.leaders.length, .ref 6202 0 r1028.1.network.length])), (6200, (.nest 61 4 [none, none, some (64, 2), some (3, 1)] (r1028.1.servers.map cS61) [])), (6201, (.arr 3 1 (r1028.1.leaders.map (cI .i64)))), (6202, (.arr 73 8 (r1028.1.network.map cS73)))] (.i r1028.2) (by simp) rfl (by simp <;> rfl) (by simp) (by simp) (by simp) (by simp) (by simp) ent15 (by simp) (by simp) (by simp) (by simp) (by simp) (by simp) ?_
       refine .st (mk 234 [] (L94 a0 a2 a3 r910 a1 a1.length v573 ++ [(164, .ptr 60 0 0), (165, .i r910), (166, .i r1028.2)]) (H7 r1028.1 l570 l571 l572)) ?_
       refine .runK [] 1 fun K k => ?_; simp; refine k _ _ ?_; clear k K
       refine .tt (L93 a0 a2 a3 r910 r1028.2 ++ [(24, .b true), (83, .d (.sl (a1.map (cL (cI .i64))))), (84, .i (a1.length : Int)), (85, .i v573)]) (H7 r1028.1 l570 l571 l572) ?_
       refine .nil ?_
       cases h
       refine PostN.next ?_
       exact Sub.tt
      have c1027_ : (r1018 == 3) = false := Bool.eq_false_iff.2 c1027
      refine .condF (b := (r1018 == 3)) rfl c1027_ ?_
      refine .sub (.bool 24 (b := (r1018 == 3)) rfl c1027_) ?_
      refine .sub (.bool 163 (b := (r1018 == 3)) rfl c1027_) ?_
      refine .st (mk 234 [] (L95 a0 a2 a3 r910 a1 a1.length v573 ++ [(163, .b false)]) (H2 l567 l568 l569 l570 l571 l572)) ?_
      refine .region ?_
      refine .runK [] 2 fun K k => ?_; simp; refine k _ _ ?_; clear k K
      refine .tt (L95 a0 a2 a3 r910 a1 a1.length v573 ++ [(167, .ptr 60 0 0), (168, .i r910)]) (H2 l567 l568 l569 l570 l571 l572) ?_
      replace h := bsome h; obtain ⟨r1029, hr1029, h⟩ := h
      refine .callF (p16 N (S59.mk l567 l568 l569) r910 r1029 hr1029) [(60, 1000), (6200, 25000), (6201, 25001), (6202, 25002)] [60] [(1000, 60), (25000, 6200), (25001, 6201), (25002, 6202)] [(60, (.box [.ref 6200 0 r1029.1.servers.length, .ref 6201 0 r1029.1.leaders.length, .ref 6202 0 r1029.1.network.length])), (6200, (.nest 61 4 [none, none, some (64, 2), some (3, 1)] (r1029.1.servers.map cS61) [])), (6201, (.arr 3 1 (r1029.1.leaders.map (cI .i64)))), (6202, (.arr 73 8 (r1029.1.network.map cS73)))] (.i r1029.2) (by simp) rfl (by simp <;> rfl) (by simp) (by simp) (by simp) (by simp) (by simp) ent16 (by simp) (by simp) (by simp) (by simp) (by simp) (by simp) ?_
      refine .st (mk 234 [] (L95 a0 a2 a3 r910 a1 a1.length v573 ++ [(167, .ptr 60 0 0), (168, .i r910), (169, .i r1029.2)]) (H7 r1029.1 l570 l571 l572)) ?_
      refine .runK [] 1 fun K k => ?_; simp; refine k _ _ ?_; clear k K
      refine .tt (L93 a0 a2 a3 r910 r1029.2 ++ [(24, .b false), (83, .d (.sl (a1.map (cL (cI .i64))))), (84, .i (a1.length : Int)), (85, .i v573)]) (H7 r1029.1 l570 l571 l572) ?_
      refine .nil ?_
      cases h
      refine PostN.next ?_
      exact Sub.tt
     rintro ⟨l1022, l1023, l1024, v1025, v1026⟩ h
     dsimp only at h ⊢
     refine thenQ_normal ?_
     refine .seqR ?_
     refine .runK [] 1 fun K k => ?_; simp; refine k _ _ ?_; clear k K
     refine .tt (L96 a0 a2 a3 r910 v1025 v1026 a1 a1.length v573) (H2 l1022 l1023 l1024 l570 l571 l572) ?_
     refine .nil ?_
     replace h := bsome h; obtain ⟨v1031, hj, h⟩ := h
     refine .cutR (mk 234 [] (L96 a0 a2 a3 r910 v1025 v1026 a1 a1.length v573 ++ [(180, .b v1031)]) (H2 l1022 l1023 l1024 l570 l571 l572)) ?_ ?_
     ·clear h; have h := hj; clear hj
      refine .runK [] 3 fun K k => ?_; simp; refine k _ _ ?_; clear k K
      refine .tt (L96 a0 a2 a3 r910 v1025 v1026 a1 a1.length v573 ++ [(172, .b (decide (r910 ≥ 0)))]) (H2 l1022 l1023 l1024 l570 l571 l572) ?_
      replace h := isome h; rcases h with ⟨c1032, h⟩ | ⟨c1032, h⟩
      ·have c1032_ : decide (r910 ≥ 0) = true := decide_eq_true c1032
       refine .sub (.bool 172 (b := decide (r910 ≥ 0)) rfl c1032_) ?_
       refine .st (mk 234 [] (L96 a0 a2 a3 r910 v1025 v1026 a1 a1.length v573 ++ [(172, .b true)]) (H2 l1022 l1023 l1024 l570 l571 l572)) ?_
       refine .runK [] 8 fun K k => ?_; simp; refine k _ _ ?_; clear k K
       refine .tt (L96 a0 a2 a3 r910 v1025 v1026 a1 a1.length v573 ++ [(173, .i r910), (174, .ptr 82 0 0), (175, .ptr 82 0 0), (176, .ptr 82 0 2), (177, .ref 6642 0 l572.length), (178, .i (l572.length : Int)), (179, .b (decide (r910 < (l572.length : Int)))), (180, .b (decide (r910 < (l572.length : Int))))]) (H2 l1022 l1023 l1024 l570 l571 l572) ?_
       cases h
       exact .nil .tt
      have c1032_ : decide (r910 ≥ 0) = false := decide_eq_false c1032
      refine .sub (.bool 172 (b := decide (r910 ≥ 0)) rfl c1032_) ?_
      refine .st (mk 234 [] (L96 a0 a2 a3 r910 v1025 v1026 a1 a1.length v573 ++ [(172, .b false)]) (H2 l1022 l1023 l1024 l570 l571 l572)) ?_
      refine .runK [] 8 fun K k => ?_; simp; refine k _ _ ?_; clear k K
      refine .tt (L96 a0 a2 a3 r910 v1025 v1026 a1 a1.length v573 ++ [(173, .tup []), (174, .tup []), (175, .tup []), (176, .tup []), (177, .tup []), (178, .tup []), (179, .tup []), (180, .b false)]) (H2 l1022 l1023 l1024 l570 l571 l572) ?_
      cases h
      exact .nil .tt
     clear hj
     replace h := isome h; rcases h with ⟨c1033, h⟩ | ⟨c1033, h⟩
     ·have c1033_ : v1031 = true := c1033
      refine .condT (b := v1031) rfl c1033_ ?_
      refine .sub (.bool 180 (b := v1031) rfl c1033_) ?_
      refine .st (mk 234 [] (L96 a0 a2 a3 r910 v1025 v1026 a1 a1.length v573 ++ [(180, .b true)]) (H2 l1022 l1023 l1024 l570 l571 l572)) ?_
      refine .seqR ?_
      refine .runK [] 1 fun K k => ?_; simp; refine k _ _ ?_; clear k K
      refine .tt (L97 a0 a2 a3 r910 v1025 v1026 ++ [(83, .d (.sl (a1.map (cL (cI .i64))))), (84, .i (a1.length : Int)), (85, .i v573)]) (H2 l1022 l1023 l1024 l570 l571 l572) ?_
      refine .nil ?_
      refine .seqR ?_
      replace h := bsome h; obtain ⟨x1034, hx1034, h⟩ := h
      obtain ⟨k1035, hx1034k, hx1034, hx1034a, hx1034b⟩ := idx_some hx1034
      refine .runK [] 9 fun K k => ?_; simp [hx1034, hx1034k, hx1034a, hx1034b]; refine k _ _ ?_; clear k K
      refine .tt (L97 a0 a2 a3 r910 v1025 v1026 ++ [(25, .ptr 25 0 0), (83, .d (.sl (a1.map (cL (cI .i64))))), (84, .i (a1.length : Int)), (85, .i v573)]) (H28 x1034 l1022 l1023 l1024 l570 l571 l572) ?_
      refine .nil ?_
      refine .sub (.freeze 6642 rfl) ?_
      refine .st (mk 234 [] (L97 a0 a2 a3 r910 v1025 v1026 ++ [(25, .ptr 25 0 0), (83, .d (.sl (a1.map (cL (cI .i64))))), (84, .i (a1.length : Int)), (85, .i v573)]) [(25, some (.box [.i x1034.Kind, .i x1034.From, .i x1034.To, .i x1034.Term, .i x1034.Index, .i x1034.PrevTerm, .i x1034.Commit, .d (.sl (x1034.Entries.map cS64))])), (60, some (.box [.ref 6200 0 l1022.length, .ref 6201 0 l1023.length, .ref 6202 0 l1024.length])), (82, some (.box [.ref 6640 0 l570.length, .ref 6641 0 l571.length, .d (.sl (l572.map cS73))])), (6200, some (.nest 61 4 [none, none, some (64, 2), some (3, 1)] (l1022.map cS61) [])), (6201, R3 l1023), (6202, R73 l1024), (6640, some (.nest 68 4 [none, none, some (71, 2), some (3, 1)] (l570.map cS68) [])), (6641, R3 l571)]) ?_
      replace h := bsome h; obtain ⟨n1044, gn1044, h⟩ := h
      obtain ⟨hn1044a, hn1044⟩ := natI_some gn1044
      clear gn1044
      subst hn1044a
      replace h := lsome h; obtain ⟨l1045, gl1045, h⟩ := h
      have hl1045 : ((l572.map cS73).take n1044) = l1045.map cS73 := by rw [← gl1045]; simp
      clear gl1045
      replace h := bsome h; obtain ⟨v1046, hv1046, h⟩ := h
      have hv1046 := chkI_some hv1046
      replace h := bsome h; obtain ⟨n1047, gn1047, h⟩ := h
      obtain ⟨hn1047a, hn1047⟩ := natI_some gn1047
      clear gn1047
      subst hn1047a
      replace h := lsome h; obtain ⟨l1048, gl1048, h⟩ := h
      have hl1048 : ((l572.map cS73).drop n1047) = l1048.map cS73 := by rw [← gl1048]; simp
      clear gl1048
      replace h := bsome h; obtain ⟨r1049, hr1049, h⟩ := h
      refine .seqAnyS [[], [], [1], [1, 2], [1, 2, 3], [], [1, 2, 3, 4, 5], [], [7], [7, 8], [7, 8, 9], [], [11], [7, 8, 9, 10, 11, 12], [1, 2, 3, 4, 5, 6, 7, 8, 9, 10, 11, 12, 13], [1, 2, 3, 4, 5, 6, 7, 8, 9, 10, 11, 12, 13, 14], [0, 1, 2, 3, 4, 5, 6, 7, 8, 9, 10, 11, 12, 13, 14, 15], [0, 1, 2, 3, 4, 5, 6, 7, 8, 9, 10, 11, 12, 13, 14, 15, 16], [0, 1, 2, 3, 4, 5, 6, 7, 8, 9, 10, 11, 12, 13, 14, 15, 16, 17]] (fun (b : Nat → Bool) => mk 234 [] [(0, .i a0), (2, .d (.sl (a2.map cS))), (3, .d (.sl (a3.map (cL (cI .i64))))), (14, .ptr 60 0 0), (16, .ptr 82 0 0), (19, .i (n1044 : Int)), (21, .i v1025), (22, .i 0), (24, .b v1026), (25, .ptr 25 0 0), (83, .d (.sl (a1.map (cL (cI .i64))))), (84, .i (a1.length : Int)), (85, .i v573), (188, (if b 0 then .ptr 82 0 0 else .junk)), (189, (if b 1 then .ptr 82 0 0 else .junk)), (190, (if b 2 then .ptr 82 0 0 else .junk)), (191, (if b 3 then .ptr 82 0 2 else .junk)), (192, (if b 4 then .d (.sl (l572.map cS73)) else .junk)), (193, (if b 5 then .i (n1044 : Int) else .junk)), (194, (if b 6 then .d (.sl (l1045.map cS73)) else .junk)), (195, (if b 7 then .ptr 82 0 0 else .junk)), (196, (if b 8 then .ptr 82 0 0 else .junk)), (197, (if b 9 then .ptr 82 0 2 else .junk)), (198, (if b 10 then .d (.sl (l572.map cS73)) else .junk)), (199, (if b 11 then .i (n1044 : Int) else .junk)), (200, (if b 12 then .i (n1047 : Int) else .junk)), (201, (if b 13 then .d (.sl (l1048.map cS73)) else .junk)), (202, (if b 14 then .d (.sl ([l1045, l1048].map (cL cS73))) else .junk)), (203, (if b 15 then .ref 203 0 r1049.length else .junk)), (204, (if b 16 then .ptr 82 0 0 else .junk)), (205, (if b 17 then .ptr 82 0 2 else .junk))] [(25, some (.box [.i x1034.Kind, .i x1034.From, .i x1034.To, .i x1034.Term, .i x1034.Index, .i x1034.PrevTerm, .i x1034.Commit, .d (.sl (x1034.Entries.map cS64))])), (60, some (.box [.ref 6200 0 l1022.length, .ref 6201 0 l1023.length, .ref 6202 0 l1024.length])), (82, (if b 18 then some (.box [.ref 6640 0 l570.length, .ref 6641 0 l571.length, .ref 203 0 r1049.length]) else some (.box [.ref 6640 0 l570.length, .ref 6641 0 l571.length, .d (.sl (l572.map cS73))]))), (203, (if b 15 then R47 r1049 else none)), (6200, some (.nest 61 4 [none, none, some (64, 2), some (3, 1)] (l1022.map cS61) [])), (6201, R3 l1023), (6202, R73 l1024), (6640, some (.nest 68 4 [none, none, some (71, 2), some (3, 1)] (l570.map cS68) [])), (6641, R3 l571)]) (mk 234 [] (L91 a0 a2 a3 v1025 ++ [(22, .i 0), (24, .b v1026), (25, .ptr 25 0 0), (83, .d (.sl (a1.map (cL (cI .i64))))), (84, .i (a1.length : Int)), (85, .i v573)]) (H41 x1034 l1022 l1023 l1024 l570 l571 r1049)) (by kernel_rfl) (by kernel_rfl) Sub.tt (Steps.cons ?_ (Steps.cons ?_ (Steps.cons ?_ (Steps.cons ?_ (Steps.cons ?_ (Steps.cons ?_ (Steps.cons ?_ (Steps.cons ?_ (Steps.cons ?_ (Steps.cons ?_ (Steps.cons ?_ (Steps.cons ?_ (Steps.cons ?_ (Steps.cons ?_ (Steps.cons ?_ (Steps.cons ?_ (Steps.cons ?_ (Steps.cons ?_ (Steps.cons ?_ (Steps.nil)))))))))))))))))))) ?_ ?_
      iterate 6
       ·intro b h0 ha hd
        have T := fct h0 ha hd; simp at T
        refine .runK [202] 1 fun K k => ?_; simp [T]; refine k _ _ ?_; clear k K
        exact .nil (.table (by simp [T]) (by simp [T]))
      ·intro b h0 ha hd
       have T := fct h0 ha hd; simp at T
       refine .runK [202] 1 fun K k => ?_; simp [T, hn1044, hl1045]; refine k _ _ ?_; clear k K
       exact .nil (.table (by simp [T]) (by simp [T]))
      iterate 5
       ·intro b h0 ha hd
        have T := fct h0 ha hd; simp at T
        refine .runK [202] 1 fun K k => ?_; simp [T]; refine k _ _ ?_; clear k K
        exact .nil (.table (by simp [T]) (by simp [T]))
      ·intro b h0 ha hd
       have T := fct h0 ha hd; simp at T
       refine .runK [202] 1 fun K k => ?_; simp [T, hv1046]; refine k _ _ ?_; clear k K
       exact .nil (.table (by simp [T]) (by simp [T]))
      ·intro b h0 ha hd
       have T := fct h0 ha hd; simp at T
       refine .runK [202] 1 fun K k => ?_; simp [T, hn1047, hl1048]; refine k _ _ ?_; clear k K
       exact .nil (.table (by simp [T]) (by simp [T]))
      ·intro b h0 ha hd
       have T := fct h0 ha hd; simp at T
       refine .runK [202] 1 fun K k => ?_; simp [T]; refine k _ _ ?_; clear k K
       exact .nil (.table (by simp [T]) (by simp [T]))
      ·intro b h0 ha hd
       have T := fct h0 ha hd; simp at T
       simp only [T, if_true, if_false, Bool.false_eq_true]
       refine .callO (d := 203) (p17 N [l1045, l1048] r1049 hr1049) (by simp) rfl rfl (by simp <;> rfl) (by simp <;> rfl) ent17 (by simp) ⟨by simp, by simp⟩ ?_
       exact .nil (by simp [T]; exact Sub.table (by simp) (by simp))
      iterate 3
       ·intro b h0 ha hd
        have T := fct h0 ha hd; simp at T
        refine .runK [202] 1 fun K k => ?_; simp [T]; refine k _ _ ?_; clear k K
        exact .nil (.table (by simp [T]) (by simp [T]))
      ·intro b hb
       have t0 := hb 0 (by decide)
       have t1 := hb 1 (by decide)
       have t2 := hb 2 (by decide)
       have t3 := hb 3 (by decide)
       have t4 := hb 4 (by decide)
       have t5 := hb 5 (by decide)
       have t6 := hb 6 (by decide)
       have t7 := hb 7 (by decide)
       have t8 := hb 8 (by decide)
       have t9 := hb 9 (by decide)
       have t10 := hb 10 (by decide)
       have t11 := hb 11 (by decide)
       have t12 := hb 12 (by decide)
       have t13 := hb 13 (by decide)
       have t14 := hb 14 (by decide)
       have t15 := hb 15 (by decide)
       have t16 := hb 16 (by decide)
       have t17 := hb 17 (by decide)
       have t18 := hb 18 (by decide)
       exact Sub.table (by simp [t0, t1, t2, t3, t4, t5, t6, t7, t8, t9, t10, t11, t12, t13, t14, t15, t16, t17]) (by simp [t15, t18])
      skip
      refine .seqR ?_
      refine .runK [] 1 fun K k => ?_; simp; refine k _ _ ?_; clear k K
      refine .tt (L98 a0 a2 a3 v1025 a1 a1.length v573 ++ [(206, .b v1026)]) (H41 x1034 l1022 l1023 l1024 l570 l571 r1049) ?_
      refine .sub (S' := mk 234 [] (L98 a0 a2 a3 v1025 a1 a1.length v573 ++ [(206, .b v1026)]) (H28 x1034 l1022 l1023 l1024 l570 l571 r1049)) (Sub.names [(25, 25), (60, 60), (82, 82), (203, 6642), (6200, 6200), (6201, 6201), (6202, 6202), (6640, 6640), (6641, 6641)] (by simp) (by simp) (by simp [back]) (by simp [V.rnm, lk2]) (by simp [back, Blk.rnm, V.rnm, rnmL, lk2])) ?_
      refine .nil ?_
      replace h := isome h; rcases h with ⟨c1050, h⟩ | ⟨c1050, h⟩
      ·have c1050_ : v1026 = true := c1050
       refine .condT (b := v1026) rfl c1050_ ?_
       refine .sub (.bool 206 (b := v1026) rfl c1050_) ?_
       refine .st (mk 234 [] (L98 a0 a2 a3 v1025 a1 a1.length v573 ++ [(206, .b true)]) (H28 x1034 l1022 l1023 l1024 l570 l571 r1049)) ?_
       refine .region ?_
       refine .runK [] 2 fun K k => ?_; simp; refine k _ _ ?_; clear k K
       refine .tt (L92 a0 a2 a3 v1025 a1 a1.length v573 ++ [(207, .ptr 82 0 0), (208, .agg [.i x1034.Kind, .i x1034.From, .i x1034.To, .i x1034.Term, .i x1034.Index, .i x1034.PrevTerm, .i x1034.Commit, .d (.sl (x1034.Entries.map cS64))])]) (H2 l1022 l1023 l1024 l570 l571 r1049) ?_
       replace h := bsome h; obtain ⟨r1051, hr1051, h⟩ := h
       refine .callF (p18 N (S44.mk l570 l571 r1049) x1034 r1051 hr1051) [(82, 1000), (6640, 25000), (6641, 25001), (6642, 25002)] [82] [(1000, 82), (25000, 6640), (25001, 6641), (25002, 6642)] [(82, (.box [.ref 6640 0 r1051.Servers.length, .ref 6641 0 r1051.Leaders.length, .ref 6642 0 r1051.Network.length])), (6640, (.nest 68 4 [none, none, some (71, 2), some (3, 1)] (r1051.Servers.map cS68) [])), (6641, (.arr 3 1 (r1051.Leaders.map (cI .i64)))), (6642, (.arr 47 8 (r1051.Network.map cS73)))] (.tup []) (by simp) rfl (by simp <;> rfl) (by simp) (by simp) (by simp) (by simp) (by simp) ent18 (by simp) (by simp) (by simp) (by simp) (by simp) (by simp) ?_
       refine .st (mk 234 [] (L92 a0 a2 a3 v1025 a1 a1.length v573 ++ [(207, .ptr 82 0 0), (208, .agg [.i x1034.Kind, .i x1034.From, .i x1034.To, .i x1034.Term, .i x1034.Index, .i x1034.PrevTerm, .i x1034.Commit, .d (.sl (x1034.Entries.map cS64))]), (209, .tup [])]) [(60, some (.box [.ref 6200 0 l1022.length, .ref 6201 0 l1023.length, .ref 6202 0 l1024.length])), (82, some (.box [.ref 6640 0 r1051.Servers.length, .ref 6641 0 r1051.Leaders.length, .ref 6642 0 r1051.Network.length])), (6200, some (.nest 61 4 [none, none, some (64, 2), some (3, 1)] (l1022.map cS61) [])), (6201, R3 l1023), (6202, R73 l1024), (6640, some (.nest 68 4 [none, none, some (71, 2), some (3, 1)] (r1051.Servers.map cS68) [])), (6641, R3 r1051.Leaders), (6642, R47 r1051.Network)]) ?_
       refine .nil ?_
       cases h
       refine PostN.next ?_
       exact Sub.tt
      have c1050_ : v1026 = false := Bool.eq_false_iff.2 c1050
      refine .condF (b := v1026) rfl c1050_ ?_
      refine .sub (.bool 206 (b := v1026) rfl c1050_) ?_
      refine .st (mk 234 [] (L98 a0 a2 a3 v1025 a1 a1.length v573 ++ [(206, .b false)]) (H28 x1034 l1022 l1023 l1024 l570 l571 r1049)) ?_
      refine .skip ?_
      cases h
      refine PostN.next ?_
      exact Sub.tt
     have c1033_ : v1031 = false := Bool.eq_false_iff.2 c1033
     refine .condF (b := v1031) rfl c1033_ ?_
     refine .sub (.bool 180 (b := v1031) rfl c1033_) ?_
     refine .st (mk 234 [] (L96 a0 a2 a3 r910 v1025 v1026 a1 a1.length v573 ++ [(180, .b false)]) (H2 l1022 l1023 l1024 l570 l571 l572)) ?_
     refine .skip ?_
     cases h
     refine PostN.next ?_
     exact Sub.tt
    have c1017_ : v1015 = false := Bool.eq_false_iff.2 c1017
    refine .condF (b := v1015) rfl c1017_ ?_
    refine .sub (.bool 157 (b := v1015) rfl c1017_) ?_
    refine .st (mk 234 [] (L83 a0 a2 a3 x908 r910 r911 a1 a1.length v573 r912 ++ [(157, .b false)]) (H2 l567 l568 l569 l570 l571 l572)) ?_
    refine .seqR ?_
    refine .runK [] 2 fun K k => ?_; simp; refine k _ _ ?_; clear k K
    refine .tt (L99 a0 a2 a3 r910 r911 a1 a1.length v573 ++ [(210, .b (r912 == 5))]) (H2 l567 l568 l569 l570 l571 l572) ?_
    refine .nil ?_
    replace h := isome h; rcases h with ⟨c1052, h⟩ | ⟨c1052, h⟩
    ·have c1052_ : (r912 == 5) = true := c1052
     refine .condT (b := (r912 == 5)) rfl c1052_ ?_
     refine .sub (.bool 210 (b := (r912 == 5)) rfl c1052_) ?_
     refine .st (mk 234 [] (L99 a0 a2 a3 r910 r911 a1 a1.length v573 ++ [(210, .b true)]) (H2 l567 l568 l569 l570 l571 l572)) ?_
     refine .region ?_
     refine .runK [] 4 fun K k => ?_; simp; refine k _ _ ?_; clear k K
     refine .tt (L100 a0 a2 a3 r910 r911 a1 a1.length v573) (H2 l567 l568 l569 l570 l571 l572) ?_
     replace h := bsome h; obtain ⟨r1053, hr1053, h⟩ := h
     refine .callC (d := 216) (p20 N a3 r911 r1053 hr1053) (by simp) rfl rfl (by simp <;> rfl) (by simp <;> rfl) ent20 (by simp) (.inl ⟨by simp, by simp⟩) ?_
     refine .st (mk 234 [] (L100 a0 a2 a3 r910 r911 a1 a1.length v573 ++ [(216, .d (.sl (r1053.map (cI .i64))))]) (H2 l567 l568 l569 l570 l571 l572)) ?_
     replace h := bsome h; obtain ⟨r1054, hr1054, h⟩ := h
     refine .callF (p19 N (S59.mk l567 l568 l569) r910 r1053 r1054 hr1054) [(60, 1000), (6200, 25000), (6201, 25001), (6202, 25002)] [60] [(1000, 60), (25000, 6200), (25001, 6201), (25002, 6202)] [(60, (.box [.ref 6200 0 r1054.1.servers.length, .ref 6201 0 r1054.1.leaders.length, .ref 6202 0 r1054.1.network.length])), (6200, (.nest 61 4 [none, none, some (64, 2), some (3, 1)] (r1054.1.servers.map cS61) [])), (6201, (.arr 3 1 (r1054.1.leaders.map (cI .i64)))), (6202, (.arr 73 8 (r1054.1.network.map cS73)))] (.i r1054.2) (by simp) rfl (by simp <;> rfl) (by simp) (by simp) (by simp) (by simp) (by simp) ent19 (by simp) (by simp) (by simp) (by simp) (by simp) (by simp) ?_
     refine .st (mk 234 [] (L100 a0 a2 a3 r910 r911 a1 a1.length v573 ++ [(216, .d (.sl (r1053.map (cI .i64)))), (217, .i r1054.2)]) (H7 r1054.1 l570 l571 l572)) ?_
     refine .runK [] 4 fun K k => ?_; simp; refine k _ _ ?_; clear k K
     refine .tt (L101 a0 a2 a3 a1 a1.length v573 r1054.2 r910 r911) (H7 r1054.1 l570 l571 l572) ?_
     replace h := bsome h; obtain ⟨r1055, hr1055, h⟩ := h
     refine .callC (d := 222) (p20 N a3 r911 r1055 hr1055) (by simp) rfl rfl (by simp <;> rfl) (by simp <;> rfl) ent20 (by simp) (.inl ⟨by simp, by simp⟩) ?_
     refine .st (mk 234 [] (L101 a0 a2 a3 a1 a1.length v573 r1054.2 r910 r911 ++ [(222, .d (.sl (r1055.map (cI .i64))))]) (H7 r1054.1 l570 l571 l572)) ?_
     replace h := bsome h; obtain ⟨r1056, hr1056, h⟩ := h
     refine .callF (p21 N (S44.mk l570 l571 l572) r910 r1055 r1056 hr1056) [(82, 1000), (6640, 25000), (6641, 25001), (6642, 25002)] [82] [(1000, 82), (25000, 6640), (25001, 6641), (25002, 6642)] [(82, (.box [.ref 6640 0 r1056.1.Servers.length, .ref 6641 0 r1056.1.Leaders.length, .ref 6642 0 r1056.1.Network.length])), (6640, (.nest 68 4 [none, none, some (71, 2), some (3, 1)] (r1056.1.Servers.map cS68) [])), (6641, (.arr 3 1 (r1056.1.Leaders.map (cI .i64)))), (6642, (.arr 47 8 (r1056.1.Network.map cS73)))] (.i r1056.2) (by simp) rfl (by simp <;> rfl) (by simp) (by simp) (by simp) (by simp) (by simp) ent21 (by simp) (by simp) (by simp) (by simp) (by simp) (by simp) ?_
     refine .st (mk 234 [] (L101 a0 a2 a3 a1 a1.length v573 r1054.2 r910 r911 ++ [(222, .d (.sl (r1055.map (cI .i64)))), (223, .i r1056.2)]) (H19 r1054.1 r1056.1)) ?_
     refine .runK [] 2 fun K k => ?_; simp; refine k _ _ ?_; clear k K
     refine .tt (L84 a0 a2 a3 r1054.2 r1056.2 a1 a1.length v573) (H19 r1054.1 r1056.1) ?_
     refine .nil ?_
     cases h
     refine PostN.next ?_
     exact Sub.tt
    have c1052_ : (r912 == 5) = false := Bool.eq_false_iff.2 c1052
    refine .condF (b := (r912 == 5)) rfl c1052_ ?_
    refine .sub (.bool 210 (b := (r912 == 5)) rfl c1052_) ?_
    refine .st (mk 234 [] (L99 a0 a2 a3 r910 r911 a1 a1.length v573 ++ [(210, .b false)]) (H2 l567 l568 l569 l570 l571 l572)) ?_
    refine .skip ?_
    cases h
    refine PostN.next ?_
    exact Sub.tt
   rintro ⟨l981, l982, l983, l984, l985, l986, v987, v988⟩ h
   dsimp only at h ⊢
   refine blockQ.normal ?_
   refine thenQ_normal ?_
   replace h := bsome h; obtain ⟨⟨l1059, l1060, l1061, l1062, l1063, l1064, v1065⟩, hj, h⟩ := h
   dsimp only at h
   refine .cutR (mk 234 [] (L80 a0 a2 a3 a1 a1.length v573 ++ [(232, .b v1065)]) (H2 l1059 l1060 l1061 l1062 l1063 l1064)) ?_ ?_
   ·clear h; have h := hj; clear hj
    refine .runK [] 4 fun K k => ?_; simp; refine k _ _ ?_; clear k K
    refine .tt (L80 a0 a2 a3 a1 a1.length v573 ++ [(227, .b (v987 != v988))]) (H2 l981 l982 l983 l984 l985 l986) ?_
    replace h := isome h; rcases h with ⟨c1066, h⟩ | ⟨c1066, h⟩
    ·have c1066_ : (v987 != v988) = true := c1066
     refine .sub (.bool 227 (b := (v987 != v988)) rfl c1066_) ?_
     refine .st (mk 234 [] (L80 a0 a2 a3 a1 a1.length v573 ++ [(227, .b true)]) (H2 l981 l982 l983 l984 l985 l986)) ?_
     refine .runK [] 5 fun K k => ?_; simp; refine k _ _ ?_; clear k K
     refine .tt (L80 a0 a2 a3 a1 a1.length v573 ++ [(228, .tup []), (229, .tup []), (230, .tup []), (231, .tup []), (232, .b true)]) (H2 l981 l982 l983 l984 l985 l986) ?_
     cases h
     exact .nil .tt
    have c1066_ : (v987 != v988) = false := Bool.eq_false_iff.2 c1066
    refine .sub (.bool 227 (b := (v987 != v988)) rfl c1066_) ?_
    refine .st (mk 234 [] (L102 a0 a2 a3 a1 a1.length v573) (H2 l981 l982 l983 l984 l985 l986)) ?_
    refine .runK [] 2 fun K k => ?_; simp; refine k _ _ ?_; clear k K
    refine .tt (L102 a0 a2 a3 a1 a1.length v573 ++ [(228, .ptr 60 0 0), (229, .ptr 82 0 0)]) (H2 l981 l982 l983 l984 l985 l986) ?_
    replace h := bsome h; obtain ⟨r1067, hr1067, h⟩ := h
    refine .callF (p22 N (S59.mk l981 l982 l983) (S44.mk l984 l985 l986) r1067 hr1067) [(60, 1000), (6200, 25000), (6201, 25001), (6202, 25002), (82, 2000), (6640, 45000), (6641, 45001), (6642, 45002)] [60, 82] [(1000, 60), (25000, 6200), (25001, 6201), (25002, 6202), (2000, 82), (45000, 6640), (45001, 6641), (45002, 6642)] [(60, (.box [.ref 6200 0 r1067.1.servers.length, .ref 6201 0 r1067.1.leaders.length, .ref 6202 0 r1067.1.network.length])), (6200, (.nest 61 4 [none, none, some (64, 2), some (3, 1)] (r1067.1.servers.map cS61) [])), (6201, (.arr 3 1 (r1067.1.leaders.map (cI .i64)))), (6202, (.arr 73 8 (r1067.1.network.map cS73))), (82, (.box [.ref 6640 0 r1067.2.1.Servers.length, .ref 6641 0 r1067.2.1.Leaders.length, .ref 6642 0 r1067.2.1.Network.length])), (6640, (.nest 68 4 [none, none, some (71, 2), some (3, 1)] (r1067.2.1.Servers.map cS68) [])), (6641, (.arr 3 1 (r1067.2.1.Leaders.map (cI .i64)))), (6642, (.arr 47 8 (r1067.2.1.Network.map cS73)))] (.b r1067.2.2) (by simp) rfl (by simp <;> rfl) (by simp) (by simp) (by simp) (by simp) (by simp) ent22 (by simp) (by simp) (by simp) (by simp) (by simp) (by simp) ?_
    refine .st (mk 234 [] (L102 a0 a2 a3 a1 a1.length v573 ++ [(228, .ptr 60 0 0), (229, .ptr 82 0 0), (230, .b r1067.2.2)]) (H19 r1067.1 r1067.2.1)) ?_
    refine .runK [] 2 fun K k => ?_; simp; refine k _ _ ?_; clear k K
    refine .tt (L80 a0 a2 a3 a1 a1.length v573 ++ [(228, .ptr 60 0 0), (229, .ptr 82 0 0), (230, .b r1067.2.2), (231, .b (!r1067.2.2)), (232, .b (!r1067.2.2))]) (H19 r1067.1 r1067.2.1) ?_
    cases h
    exact .nil .tt
   clear hj
   replace h := isome h; rcases h with ⟨c1068, h⟩ | ⟨c1068, h⟩
   ·have c1068_ : v1065 = true := c1068
    refine .condT (b := v1065) rfl c1068_ ?_
    refine .sub (.bool 232 (b := v1065) rfl c1068_) ?_
    refine .st (mk 234 [] (L80 a0 a2 a3 a1 a1.length v573 ++ [(232, .b true)]) (H2 l1059 l1060 l1061 l1062 l1063 l1064)) ?_
    refine .seqR ?_
    refine .runK [] 1 fun K k => ?_; simp; refine k _ _ ?_; clear k K
    refine .tt [(8, .b false)] [] ?_
    refine .nil ?_
    refine .ret ?_
    cases h
    refine blockQ.ret ?_
    refine thenQ_pass (by simp) ?_
    refine PostI.out (by simp) ?_
    rintro rfl
    refine blockQ.ret ?_
    refine PostJ.out (by simp) ?_
    rintro rfl
    refine thenQ_pass (by simp) ?_
    exact FinC.ret (by simp) (by simp)
   have c1068_ : v1065 = false := Bool.eq_false_iff.2 c1068
   refine .condF (b := v1065) rfl c1068_ ?_
   refine .sub (.bool 232 (b := v1065) rfl c1068_) ?_
   refine .st (mk 234 [] (L80 a0 a2 a3 a1 a1.length v573 ++ [(232, .b false)]) (H2 l1059 l1060 l1061 l1062 l1063 l1064)) ?_
   refine .skip ?_
   refine blockQ.normal ?_
   refine thenQ_normal ?_
   refine .region ?_
   replace h := bsome h; obtain ⟨v1069, hv1069, h⟩ := h
   have hv1069 := chkI_some hv1069
   refine .runK [] 2 fun K k => ?_; simp [hv1069]; refine k _ _ ?_; clear k K
   refine .tt (L80 a0 a2 a3 a1 a1.length v1069) (H2 l1059 l1060 l1061 l1062 l1063 l1064) ?_
   refine .nil ?_
   cases h
   refine PostI.next ?_
   exact Sub.tt
  have c907_ : decide (v573 < (a1.length : Int)) = false := decide_eq_false c907
  refine .condF (b := decide (v573 < (a1.length : Int))) rfl c907_ ?_
  refine .sub (.bool 86 (b := decide (v573 < (a1.length : Int))) rfl c907_) ?_
  refine .st (mk 234 [] (L80 a0 a2 a3 a1 a1.length v573 ++ [(86, .b false)]) (H2 l567 l568 l569 l570 l571 l572)) ?_
  refine .exit ?_
  cases h
  refine thenQ_pass (by simp) ?_
  refine PostI.out (by simp) ?_
  rintro rfl
  refine blockQ.hit ?_
  refine PostJ.next ?_
  exact Sub.tt
 rintro ⟨⟩ h
 refine thenQ_normal ?_
 refine .seqR ?_
 refine .runK [] 1 fun K k => ?_; simp; refine k _ _ ?_; clear k K
 refine .tt [(8, .b true)] [] ?_
 refine .nil ?_
 refine .ret ?_
 cases h
 exact FinC.ret (by simp) (by simp)
end Go.Proofs.Ytifcmomjjkbboab
