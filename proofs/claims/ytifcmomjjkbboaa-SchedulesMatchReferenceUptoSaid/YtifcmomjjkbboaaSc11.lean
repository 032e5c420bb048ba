/- Functions of the program as functional programs; the code computes them. -/
import Derived.Test.YtifcmomjjkbboaaSc10
namespace Go.Proofs.Ytifcmomjjkbboaa
open Go.Ab Go.Rp
attribute [-simp] List.all_eq_true Array.all_toList Array.all_eq_true

/-- stemma/stemlaw5.distinctSchedules -/
def d12 (N : Nat) (a0 : (List (List S27))) (a1 : (List (List S27))) (a2 : Int) : Option Bool :=
 bindO (β := Int) (ρ := Bool) (
  iterN (σ := (Int × (List (ByteArray × Bool)) × Int)) (ρ := (Out Int Bool)) (fun ((v106, m107, v108) : (Int × (List (ByteArray × Bool)) × Int)) =>
   if v108 < (a1.length : Int) then (
    (idx a1 v108).bind fun x326 =>
    (mkL 24 (a0.length : Int) ([] : (List S27))).bind fun l328 =>
    bindO (β := ((List (List S27)) × (List S27))) (ρ := ((Int × (List (ByteArray × Bool)) × Int) ⊕ (Out Int Bool))) (
     iterN (σ := ((List (List S27)) × (List S27) × Int)) (ρ := (Out ((List (List S27)) × (List S27)) ((Int × (List (ByteArray × Bool)) × Int) ⊕ (Out Int Bool)))) (fun ((l342, l343, v344) : ((List (List S27)) × (List S27) × Int)) =>
      if v344 < (x326.length : Int) then (
       (idx x326 v344).bind fun x379 =>
       Option.bind (α := Bool) (
        if x379.Tx < 0 then (
         some true
        ) else
        some (decide (x379.Tx ≥ (a0.length : Int)))
       ) fun (v382 : Bool) =>
       if v382 = true then (
        some (.inr (.ret (.inr (.ret false))))
       ) else
       (idx l342 x379.Tx).bind fun x385 =>
       (appL 32 x385 [x379]).bind fun _l388 =>
       (appL 32 l343 [x379]).bind fun _l389 =>
       letv (setI l342 x379.Tx (x385 ++ [x379])) fun l390 =>
       (chkI (v344 + 1)).bind fun v391 =>
       some (.inl (l390, (l343 ++ [x379]), v391))
      ) else
      some (.inr (.go (l342, l343)))
     ) N (l328, ([] : List S27), 0)
    ) fun ((l376, l377) : ((List (List S27)) × (List S27))) =>
    (d20 N l376 a0 (fun b0 b1 => d21 N b0 b1 )).bind fun r392 =>
    if (!r392) = true then (
     some (.inr (.ret false))
    ) else
    (d23 N l377).bind fun r394 =>
    Option.bind (α := ByteArray) (
     iterN (σ := (ByteArray × Int)) (ρ := ByteArray) (fun ((v400, v401) : (ByteArray × Int)) =>
      if v401 < (r394.length : Int) then (
       (idx r394 v401).bind fun x418 =>
       letv (IntKind.u8.wrap (x418.Tx)) fun v420 =>
       (catB v400 (bstr [v420])).bind fun v421 =>
       (chkI (v401 + 1)).bind fun v422 =>
       some (.inl (v421, v422))
      ) else
      some (.inr v400)
     ) N ((ByteArray.mk #[]), 0)
    ) fun (v416 : ByteArray) =>
    letv ((mget m107 v416).getD false) fun v423 =>
    if v423 = true then (
     some (.inr (.ret false))
    ) else
    (d25 N l377).bind fun r425 =>
    (d24 N r425 (fun b0 b1 => d26 N b0 b1 l377)).bind fun r426 =>
    if r426.2 = true then (
     (chkI (v106 - 1)).bind fun v428 =>
     (chkI (v108 + 1)).bind fun v429 =>
     some (.inl (v428, (mput m107 v416 true), v429))
    ) else
    (chkI (v108 + 1)).bind fun v430 =>
    some (.inl (v106, (mput m107 v416 true), v430))
   ) else
   some (.inr (.go v106))
  ) N (a2, ([] : List (ByteArray × Bool)), 0)
 ) fun (v324 : Int) =>
 some (v324 == 0)
set_option maxRecDepth 100000 in
set_option maxHeartbeats 4000000 in
theorem p12 (N : Nat) (a0 : (List (List S27))) (a1 : (List (List S27))) (a2 : Int) (r : Bool) (h : d12 N a0 a1 a2 = some r) : FunC Try.prog 12 [.d (.sl (a0.map (cL cS27))), .d (.sl (a1.map (cL cS27))), .i a2] (.b r) := by
 unfold d12 at h
 refine FunC.enter 107 [(0, .d (.sl (a0.map (cL cS27)))), (1, .d (.sl (a1.map (cL cS27)))), (2, .i a2)] (by simp) Try.func12 rfl (of_decide_eq_true rfl) rfl rfl ?_
 refine AW.seqR ?_
 refine Chain.runK [] 1 fun K hK => ?_; simp; refine hK _ _ ?_; clear hK K
 refine Chain.sub (S' := mk 107 [] [(0, .d (.sl (a0.map (cL cS27)))), (1, .d (.sl (a1.map (cL cS27)))), (2, .i a2)] []) Sub.tt ?_
 refine Chain.nil ?_
 refine AW.seqR ?_
 refine Chain.mmake .string (by simp) rfl rfl (by simp) ?_
 refine Chain.sub (S' := mk 107 [] [(0, .d (.sl (a0.map (cL cS27)))), (1, .d (.sl (a1.map (cL cS27)))), (2, .i a2), (20, .mref 20)] [(20, some (.mp .string (encM MKey.sk vB ([] : List (ByteArray × Bool)))))]) (by simp; exact Sub.table (by simp) (by simp [encM_nil])) ?_
 refine Chain.runK [] 1 fun K hK => ?_; simp; refine hK _ _ ?_; clear hK K
 refine Chain.sub (S' := mk 107 [] [(0, .d (.sl (a0.map (cL cS27)))), (1, .d (.sl (a1.map (cL cS27)))), (2, .i a2), (7, .mref 20)] [(20, some (.mp .string (encM MKey.sk vB ([] : List (ByteArray × Bool)))))]) Sub.tt ?_
 refine Chain.nil ?_
 refine AW.seq ?_
 refine AW.seqR ?_
 refine Chain.runK [] 3 fun K hK => ?_; simp; refine hK _ _ ?_; clear hK K
 refine Chain.sub (S' := mk 107 [] [(0, .d (.sl (a0.map (cL cS27)))), (2, .i a2), (7, .mref 20), (21, .d (.sl (a1.map (cL cS27)))), (22, .i (a1.length : Int)), (23, .i 0)] [(20, some (.mp .string (encM MKey.sk vB ([] : List (ByteArray × Bool)))))]) Sub.tt ?_
 refine Chain.nil ?_
 refine AW.lastJ (fun (v324 : Int) => mk 107 [] [(2, .i v324)] []) h ?_ ?_ <;> clear h
 ·intro o h
  refine AW.block ?_
  refine AW.iter (fun ((v106, m107, v108) : (Int × (List (ByteArray × Bool)) × Int)) => mk 107 [] [(0, .d (.sl (a0.map (cL cS27)))), (2, .i v106), (7, .mref 20), (21, .d (.sl (a1.map (cL cS27)))), (22, .i (a1.length : Int)), (23, .i v108)] [(20, some (.mp .string (encM MKey.sk vB m107)))]) h Sub.tt ?_
  clear h
  rintro ⟨v106, m107, v108⟩ x h
  dsimp only at h ⊢
  refine AW.seqR ?_
  refine Chain.runK [] 1 fun K hK => ?_; simp; refine hK _ _ ?_; clear hK K
  refine Chain.sub (S' := mk 107 [] [(0, .d (.sl (a0.map (cL cS27)))), (2, .i v106), (7, .mref 20), (21, .d (.sl (a1.map (cL cS27)))), (22, .i (a1.length : Int)), (23, .i v108), (24, .b (decide (v108 < (a1.length : Int))))] [(20, some (.mp .string (encM MKey.sk vB m107)))]) Sub.tt ?_
  refine Chain.nil ?_
  refine AW.seq ?_
  replace h := isome h; rcases h with ⟨c325, h⟩ | ⟨c325, h⟩
  ·have c325_ : decide (v108 < (a1.length : Int)) = true := decide_eq_true c325
   refine AW.condT (b := decide (v108 < (a1.length : Int))) rfl c325_ ?_
   refine AW.sub (Sub.bool 24 (b := decide (v108 < (a1.length : Int))) rfl c325_) ?_
   refine AW.sub (S' := mk 107 [] [(0, .d (.sl (a0.map (cL cS27)))), (2, .i v106), (7, .mref 20), (21, .d (.sl (a1.map (cL cS27)))), (22, .i (a1.length : Int)), (23, .i v108), (24, .b true)] [(20, some (.mp .string (encM MKey.sk vB m107)))]) (by simp; exact Sub.table (by simp) (by simp)) ?_
   refine AW.skip ?_
   refine thenQ_normal ?_
   refine AW.seq ?_
   refine AW.block ?_
   refine AW.seqR ?_
   replace h := bsome h; obtain ⟨x326, hx326, h⟩ := h
   obtain ⟨k327, hx326k, hx326, hx326a, hx326b⟩ := idx_some hx326
   refine Chain.runK [] 3 fun K hK => ?_; simp [hx326, hx326k, hx326a]; refine hK _ _ ?_; clear hK K
   refine Chain.sub (S' := mk 107 [] [(0, .d (.sl (a0.map (cL cS27)))), (2, .i v106), (7, .mref 20), (9, .d (.sl (x326.map cS27))), (21, .d (.sl (a1.map (cL cS27)))), (22, .i (a1.length : Int)), (23, .i v108)] [(20, some (.mp .string (encM MKey.sk vB m107)))]) Sub.tt ?_
   refine Chain.nil ?_
   refine AW.seqR ?_
   replace h := bsome h; obtain ⟨l328, gl328, h⟩ := h
   obtain ⟨hl328a, hl328b, hl328c, hl328d⟩ := mkL_some (cL cS27) gl328
   clear gl328
   replace hl328c : List.replicate l328.length [.sl []] = l328.map (cL cS27) := hl328c
   refine Chain.runK [] 3 fun K hK => ?_; simp [hl328a, hl328b, hl328d]; refine hK _ _ ?_; clear hK K
   refine Chain.sub (Sub.toNest 29 (es' := l328.map (cL cS27)) [some (34, 3)] rfl rfl (by rw [← hl328c]; exact mapO_rep (g := nz [some (34, 3)]) (by rfl) _) rfl) ?_
   refine Chain.sub (S' := mk 107 [] [(0, .d (.sl (a0.map (cL cS27)))), (2, .i v106), (7, .mref 20), (9, .d (.sl (x326.map cS27))), (21, .d (.sl (a1.map (cL cS27)))), (22, .i (a1.length : Int)), (23, .i v108), (29, .ref 29 0 l328.length)] [(20, some (.mp .string (encM MKey.sk vB m107))), (29, some (.nest 30 1 [some (34, 3)] (l328.map (cL cS27)) []))]) (by simp; exact Sub.table (by simp) (by simp)) ?_
   refine Chain.runK [] 1 fun K hK => ?_; simp; refine hK _ _ ?_; clear hK K
   refine Chain.sub (S' := mk 107 [] [(0, .d (.sl (a0.map (cL cS27)))), (2, .i v106), (7, .mref 20), (9, .d (.sl (x326.map cS27))), (10, .ref 29 0 l328.length), (21, .d (.sl (a1.map (cL cS27)))), (22, .i (a1.length : Int)), (23, .i v108)] [(20, some (.mp .string (encM MKey.sk vB m107))), (29, some (.nest 30 1 [some (34, 3)] (l328.map (cL cS27)) []))]) Sub.tt ?_
   refine Chain.nil ?_
   refine AW.seqR ?_
   refine Chain.runK [] 1 fun K hK => ?_; simp; refine hK _ _ ?_; clear hK K
   refine Chain.sub (S' := mk 107 [] [(0, .d (.sl (a0.map (cL cS27)))), (2, .i v106), (7, .mref 20), (9, .d (.sl (x326.map cS27))), (10, .ref 29 0 l328.length), (11, .ptr 11 0 0), (21, .d (.sl (a1.map (cL cS27)))), (22, .i (a1.length : Int)), (23, .i v108)] [(11, some (.box [.d (.lit (.slice none 0 0))])), (20, some (.mp .string (encM MKey.sk vB m107))), (29, some (.nest 30 1 [some (34, 3)] (l328.map (cL cS27)) []))]) Sub.tt ?_
   refine Chain.nil ?_
   refine AW.seq ?_
   refine AW.seqR ?_
   refine Chain.runK [] 3 fun K hK => ?_; simp; refine hK _ _ ?_; clear hK K
   refine Chain.sub (S' := mk 107 [] [(0, .d (.sl (a0.map (cL cS27)))), (2, .i v106), (7, .mref 20), (10, .ref 29 0 l328.length), (11, .ptr 11 0 0), (21, .d (.sl (a1.map (cL cS27)))), (22, .i (a1.length : Int)), (23, .i v108), (30, .d (.sl (x326.map cS27))), (31, .i (x326.length : Int)), (32, .i 0)] [(11, some (.box [.d (.lit (.slice none 0 0))])), (20, some (.mp .string (encM MKey.sk vB m107))), (29, some (.nest 30 1 [some (34, 3)] (l328.map (cL cS27)) []))]) Sub.tt ?_
   refine Chain.nil ?_
   refine AW.lastJ (fun ((l376, l377) : ((List (List S27)) × (List S27))) => mk 107 [] [(0, .d (.sl (a0.map (cL cS27)))), (2, .i v106), (7, .mref 20), (10, .ref 29 0 l376.length), (11, .ptr 11 0 0), (21, .d (.sl (a1.map (cL cS27)))), (22, .i (a1.length : Int)), (23, .i v108)] [(11, some (.box [.ref 67 0 l377.length])), (20, some (.mp .string (encM MKey.sk vB m107))), (29, some (.nest 30 1 [some (34, 3)] (l376.map (cL cS27)) [])), (67, R34 l377)]) h ?_ ?_ <;> clear h
   ·intro o h
    refine AW.block ?_
    refine AW.iter (fun ((l342, l343, v344) : ((List (List S27)) × (List S27) × Int)) => mk 107 [] [(0, .d (.sl (a0.map (cL cS27)))), (2, .i v106), (7, .mref 20), (10, .ref 29 0 l342.length), (11, .ptr 11 0 0), (21, .d (.sl (a1.map (cL cS27)))), (22, .i (a1.length : Int)), (23, .i v108), (30, .d (.sl (x326.map cS27))), (31, .i (x326.length : Int)), (32, .i v344)] [(11, some (.box [.ref 67 0 l343.length])), (20, some (.mp .string (encM MKey.sk vB m107))), (29, some (.nest 30 1 [some (34, 3)] (l342.map (cL cS27)) [])), (67, R34 l343)]) h (Sub.trans (Sub.nilOwnBox (bid := 11) (j := 0) (id := 67) (T := 34) (n := 3) rfl rfl (by decide) rfl (by decide)) (by simp; exact Sub.table (by simp) (by simp))) ?_
    clear h
    rintro ⟨l342, l343, v344⟩ x h
    dsimp only at h ⊢
    refine AW.seqR ?_
    refine Chain.runK [] 1 fun K hK => ?_; simp; refine hK _ _ ?_; clear hK K
    refine Chain.sub (S' := mk 107 [] [(0, .d (.sl (a0.map (cL cS27)))), (2, .i v106), (7, .mref 20), (10, .ref 29 0 l342.length), (11, .ptr 11 0 0), (21, .d (.sl (a1.map (cL cS27)))), (22, .i (a1.length : Int)), (23, .i v108), (30, .d (.sl (x326.map cS27))), (31, .i (x326.length : Int)), (32, .i v344), (33, .b (decide (v344 < (x326.length : Int))))] [(11, some (.box [.ref 67 0 l343.length])), (20, some (.mp .string (encM MKey.sk vB m107))), (29, some (.nest 30 1 [some (34, 3)] (l342.map (cL cS27)) [])), (67, R34 l343)]) Sub.tt ?_
    refine Chain.nil ?_
    refine AW.seq ?_
    replace h := isome h; rcases h with ⟨c378, h⟩ | ⟨c378, h⟩
    ·have c378_ : decide (v344 < (x326.length : Int)) = true := decide_eq_true c378
     refine AW.condT (b := decide (v344 < (x326.length : Int))) rfl c378_ ?_
     refine AW.sub (Sub.bool 33 (b := decide (v344 < (x326.length : Int))) rfl c378_) ?_
     refine AW.sub (S' := mk 107 [] [(0, .d (.sl (a0.map (cL cS27)))), (2, .i v106), (7, .mref 20), (10, .ref 29 0 l342.length), (11, .ptr 11 0 0), (21, .d (.sl (a1.map (cL cS27)))), (22, .i (a1.length : Int)), (23, .i v108), (30, .d (.sl (x326.map cS27))), (31, .i (x326.length : Int)), (32, .i v344), (33, .b true)] [(11, some (.box [.ref 67 0 l343.length])), (20, some (.mp .string (encM MKey.sk vB m107))), (29, some (.nest 30 1 [some (34, 3)] (l342.map (cL cS27)) [])), (67, R34 l343)]) (by simp; exact Sub.table (by simp) (by simp)) ?_
     refine AW.skip ?_
     refine thenQ_normal ?_
     refine AW.seq ?_
     refine AW.block ?_
     refine AW.seqR ?_
     replace h := bsome h; obtain ⟨x379, hx379, h⟩ := h
     obtain ⟨k380, hx379k, hx379, hx379a, hx379b⟩ := idx_some hx379
     refine Chain.runK [] 4 fun K hK => ?_; simp [hx379, hx379k, hx379a]; refine hK _ _ ?_; clear hK K
     refine Chain.sub (S' := mk 107 [] [(0, .d (.sl (a0.map (cL cS27)))), (2, .i v106), (7, .mref 20), (10, .ref 29 0 l342.length), (11, .ptr 11 0 0), (13, .ptr 13 0 0), (21, .d (.sl (a1.map (cL cS27)))), (22, .i (a1.length : Int)), (23, .i v108), (30, .d (.sl (x326.map cS27))), (31, .i (x326.length : Int)), (32, .i v344)] [(11, some (.box [.ref 67 0 l343.length])), (13, some (.box [.i x379.Tx, .i x379.Kind, .d (.lit (.string x379.Key))])), (20, some (.mp .string (encM MKey.sk vB m107))), (29, some (.nest 30 1 [some (34, 3)] (l342.map (cL cS27)) [])), (67, R34 l343)]) Sub.tt ?_
     refine Chain.nil ?_
     refine AW.seq ?_
     replace h := bsome h; obtain ⟨v382, hj, h⟩ := h
     refine AW.cutR (mk 107 [] [(0, .d (.sl (a0.map (cL cS27)))), (2, .i v106), (7, .mref 20), (10, .ref 29 0 l342.length), (11, .ptr 11 0 0), (13, .ptr 13 0 0), (21, .d (.sl (a1.map (cL cS27)))), (22, .i (a1.length : Int)), (23, .i v108), (30, .d (.sl (x326.map cS27))), (31, .i (x326.length : Int)), (32, .i v344), (45, .b v382)] [(11, some (.box [.ref 67 0 l343.length])), (13, some (.box [.i x379.Tx, .i x379.Kind, .d (.lit (.string x379.Key))])), (20, some (.mp .string (encM MKey.sk vB m107))), (29, some (.nest 30 1 [some (34, 3)] (l342.map (cL cS27)) [])), (67, R34 l343)]) ?_ ?_
     ·clear h; have h := hj; clear hj
      refine Chain.runK [] 4 fun K hK => ?_; simp; refine hK _ _ ?_; clear hK K
      refine Chain.sub (S' := mk 107 [] [(0, .d (.sl (a0.map (cL cS27)))), (2, .i v106), (7, .mref 20), (10, .ref 29 0 l342.length), (11, .ptr 11 0 0), (13, .ptr 13 0 0), (21, .d (.sl (a1.map (cL cS27)))), (22, .i (a1.length : Int)), (23, .i v108), (30, .d (.sl (x326.map cS27))), (31, .i (x326.length : Int)), (32, .i v344), (39, .b (decide (x379.Tx < 0)))] [(11, some (.box [.ref 67 0 l343.length])), (13, some (.box [.i x379.Tx, .i x379.Kind, .d (.lit (.string x379.Key))])), (20, some (.mp .string (encM MKey.sk vB m107))), (29, some (.nest 30 1 [some (34, 3)] (l342.map (cL cS27)) [])), (67, R34 l343)]) Sub.tt ?_
      replace h := isome h; rcases h with ⟨c383, h⟩ | ⟨c383, h⟩
      ·have c383_ : decide (x379.Tx < 0) = true := decide_eq_true c383
       refine Chain.sub (Sub.bool 39 (b := decide (x379.Tx < 0)) rfl c383_) ?_
       refine Chain.sub (S' := mk 107 [] [(0, .d (.sl (a0.map (cL cS27)))), (2, .i v106), (7, .mref 20), (10, .ref 29 0 l342.length), (11, .ptr 11 0 0), (13, .ptr 13 0 0), (21, .d (.sl (a1.map (cL cS27)))), (22, .i (a1.length : Int)), (23, .i v108), (30, .d (.sl (x326.map cS27))), (31, .i (x326.length : Int)), (32, .i v344), (39, .b true)] [(11, some (.box [.ref 67 0 l343.length])), (13, some (.box [.i x379.Tx, .i x379.Kind, .d (.lit (.string x379.Key))])), (20, some (.mp .string (encM MKey.sk vB m107))), (29, some (.nest 30 1 [some (34, 3)] (l342.map (cL cS27)) [])), (67, R34 l343)]) (by simp; exact Sub.table (by simp) (by simp)) ?_
       refine Chain.runK [] 6 fun K hK => ?_; simp; refine hK _ _ ?_; clear hK K
       refine Chain.sub (S' := mk 107 [] [(0, .d (.sl (a0.map (cL cS27)))), (2, .i v106), (7, .mref 20), (10, .ref 29 0 l342.length), (11, .ptr 11 0 0), (13, .ptr 13 0 0), (21, .d (.sl (a1.map (cL cS27)))), (22, .i (a1.length : Int)), (23, .i v108), (30, .d (.sl (x326.map cS27))), (31, .i (x326.length : Int)), (32, .i v344), (40, .tup []), (41, .tup []), (42, .tup []), (43, .tup []), (44, .tup []), (45, .b true)] [(11, some (.box [.ref 67 0 l343.length])), (13, some (.box [.i x379.Tx, .i x379.Kind, .d (.lit (.string x379.Key))])), (20, some (.mp .string (encM MKey.sk vB m107))), (29, some (.nest 30 1 [some (34, 3)] (l342.map (cL cS27)) [])), (67, R34 l343)]) Sub.tt ?_
       cases h
       exact Chain.nil Sub.tt
      ·have c383_ : decide (x379.Tx < 0) = false := decide_eq_false c383
       refine Chain.sub (Sub.bool 39 (b := decide (x379.Tx < 0)) rfl c383_) ?_
       refine Chain.sub (S' := mk 107 [] [(0, .d (.sl (a0.map (cL cS27)))), (2, .i v106), (7, .mref 20), (10, .ref 29 0 l342.length), (11, .ptr 11 0 0), (13, .ptr 13 0 0), (21, .d (.sl (a1.map (cL cS27)))), (22, .i (a1.length : Int)), (23, .i v108), (30, .d (.sl (x326.map cS27))), (31, .i (x326.length : Int)), (32, .i v344), (39, .b false)] [(11, some (.box [.ref 67 0 l343.length])), (13, some (.box [.i x379.Tx, .i x379.Kind, .d (.lit (.string x379.Key))])), (20, some (.mp .string (encM MKey.sk vB m107))), (29, some (.nest 30 1 [some (34, 3)] (l342.map (cL cS27)) [])), (67, R34 l343)]) (by simp; exact Sub.table (by simp) (by simp)) ?_
       refine Chain.runK [] 6 fun K hK => ?_; simp; refine hK _ _ ?_; clear hK K
       refine Chain.sub (S' := mk 107 [] [(0, .d (.sl (a0.map (cL cS27)))), (2, .i v106), (7, .mref 20), (10, .ref 29 0 l342.length), (11, .ptr 11 0 0), (13, .ptr 13 0 0), (21, .d (.sl (a1.map (cL cS27)))), (22, .i (a1.length : Int)), (23, .i v108), (30, .d (.sl (x326.map cS27))), (31, .i (x326.length : Int)), (32, .i v344), (40, .ptr 13 0 0), (41, .i x379.Tx), (42, .d (.sl (a0.map (cL cS27)))), (43, .i (a0.length : Int)), (44, .b (decide (x379.Tx ≥ (a0.length : Int)))), (45, .b (decide (x379.Tx ≥ (a0.length : Int))))] [(11, some (.box [.ref 67 0 l343.length])), (13, some (.box [.i x379.Tx, .i x379.Kind, .d (.lit (.string x379.Key))])), (20, some (.mp .string (encM MKey.sk vB m107))), (29, some (.nest 30 1 [some (34, 3)] (l342.map (cL cS27)) [])), (67, R34 l343)]) Sub.tt ?_
       cases h
       exact Chain.nil Sub.tt
     ·clear hj
      replace h := isome h; rcases h with ⟨c384, h⟩ | ⟨c384, h⟩
      ·have c384_ : v382 = true := c384
       refine AW.condT (b := v382) rfl c384_ ?_
       refine AW.sub (Sub.bool 45 (b := v382) rfl c384_) ?_
       refine AW.sub (S' := mk 107 [] [(0, .d (.sl (a0.map (cL cS27)))), (2, .i v106), (7, .mref 20), (10, .ref 29 0 l342.length), (11, .ptr 11 0 0), (13, .ptr 13 0 0), (21, .d (.sl (a1.map (cL cS27)))), (22, .i (a1.length : Int)), (23, .i v108), (30, .d (.sl (x326.map cS27))), (31, .i (x326.length : Int)), (32, .i v344), (45, .b true)] [(11, some (.box [.ref 67 0 l343.length])), (13, some (.box [.i x379.Tx, .i x379.Kind, .d (.lit (.string x379.Key))])), (20, some (.mp .string (encM MKey.sk vB m107))), (29, some (.nest 30 1 [some (34, 3)] (l342.map (cL cS27)) [])), (67, R34 l343)]) (by simp; exact Sub.table (by simp) (by simp)) ?_
       refine AW.seqR ?_
       refine Chain.runK [] 1 fun K hK => ?_; simp; refine hK _ _ ?_; clear hK K
       refine Chain.sub (S' := mk 107 [] [(6, .b false)] []) Sub.tt ?_
       refine Chain.nil ?_
       refine AW.ret ?_
       cases h
       refine thenQ_pass (by simp) ?_
       refine blockQ.ret ?_
       refine thenQ_pass (by simp) ?_
       refine PostI.out (by simp) ?_
       rintro rfl
       refine blockQ.ret ?_
       refine PostJ.out (by simp) ?_
       rintro rfl
       refine thenQ_pass (by simp) ?_
       refine blockQ.ret ?_
       refine thenQ_pass (by simp) ?_
       refine PostI.out (by simp) ?_
       rintro rfl
       refine blockQ.ret ?_
       refine PostJ.out (by simp) ?_
       rintro rfl
       refine thenQ_pass (by simp) ?_
       exact FinC.ret (by simp) (by simp)
      ·have c384_ : v382 = false := Bool.eq_false_iff.2 c384
       refine AW.condF (b := v382) rfl c384_ ?_
       refine AW.sub (Sub.bool 45 (b := v382) rfl c384_) ?_
       refine AW.sub (S' := mk 107 [] [(0, .d (.sl (a0.map (cL cS27)))), (2, .i v106), (7, .mref 20), (10, .ref 29 0 l342.length), (11, .ptr 11 0 0), (13, .ptr 13 0 0), (21, .d (.sl (a1.map (cL cS27)))), (22, .i (a1.length : Int)), (23, .i v108), (30, .d (.sl (x326.map cS27))), (31, .i (x326.length : Int)), (32, .i v344), (45, .b false)] [(11, some (.box [.ref 67 0 l343.length])), (13, some (.box [.i x379.Tx, .i x379.Kind, .d (.lit (.string x379.Key))])), (20, some (.mp .string (encM MKey.sk vB m107))), (29, some (.nest 30 1 [some (34, 3)] (l342.map (cL cS27)) [])), (67, R34 l343)]) (by simp; exact Sub.table (by simp) (by simp)) ?_
       refine AW.skip ?_
       refine thenQ_normal ?_
       refine AW.seqR ?_
       refine Chain.runK [] 9 fun K hK => ?_; simp; refine hK _ _ ?_; clear hK K
       refine Chain.sub (S' := mk 107 [] [(0, .d (.sl (a0.map (cL cS27)))), (2, .i v106), (7, .mref 20), (10, .ref 29 0 l342.length), (11, .ptr 11 0 0), (13, .ptr 13 0 0), (14, .ptr 14 0 0), (21, .d (.sl (a1.map (cL cS27)))), (22, .i (a1.length : Int)), (23, .i v108), (30, .d (.sl (x326.map cS27))), (31, .i (x326.length : Int)), (32, .i v344)] [(11, some (.box [.ref 67 0 l343.length])), (13, some (.box [.i x379.Tx, .i x379.Kind, .d (.lit (.string x379.Key))])), (14, some (.box [.i x379.Tx, .i x379.Kind, .d (.lit (.string x379.Key))])), (20, some (.mp .string (encM MKey.sk vB m107))), (29, some (.nest 30 1 [some (34, 3)] (l342.map (cL cS27)) [])), (67, R34 l343)]) Sub.tt ?_
       refine Chain.nil ?_
       replace h := bsome h; obtain ⟨x385, hx385, h⟩ := h
       obtain ⟨k386, hx385k, hx385, hx385a, hx385b⟩ := idx_some hx385
       refine AW.sub (Sub.open 29 k386 [9387] (e := (cL cS27) x385) rfl rfl (by simp [hx385]) rfl (by simp) rfl) ?_
       refine AW.sub (S' := mk 107 [] [(0, .d (.sl (a0.map (cL cS27)))), (2, .i v106), (7, .mref 20), (10, .ref 29 0 l342.length), (11, .ptr 11 0 0), (13, .ptr 13 0 0), (14, .ptr 14 0 0), (21, .d (.sl (a1.map (cL cS27)))), (22, .i (a1.length : Int)), (23, .i v108), (30, .d (.sl (x326.map cS27))), (31, .i (x326.length : Int)), (32, .i v344)] [(11, some (.box [.ref 67 0 l343.length])), (13, some (.box [.i x379.Tx, .i x379.Kind, .d (.lit (.string x379.Key))])), (14, some (.box [.i x379.Tx, .i x379.Kind, .d (.lit (.string x379.Key))])), (20, some (.mp .string (encM MKey.sk vB m107))), (29, some (.nest 30 1 [some (34, 3)] (l342.map (cL cS27)) [(k386, [.ref 9387 0 x385.length])])), (67, R34 l343), (9387, R34 x385)]) (by simp; exact Sub.table (by simp) (by simp)) ?_
       replace h := bsome h; obtain ⟨l388, hl388, h⟩ := h
       obtain ⟨hl388a, hl388⟩ := appL_some hl388
       subst hl388
       try simp only [List.length_cons, List.length_nil, Nat.zero_add] at hl388a
       replace h := bsome h; obtain ⟨l389, hl389, h⟩ := h
       obtain ⟨hl389a, hl389⟩ := appL_some hl389
       subst hl389
       try simp only [List.length_cons, List.length_nil, Nat.zero_add] at hl389a
       refine AW.lastAnyS [[], [], [1], [], [], [4], [3, 4, 5], [3, 4, 5, 6], [], [8], [3, 4, 5, 6, 7, 8, 9], [], [], [12], [3, 4, 5, 6, 7, 8, 9, 10, 11, 12, 13], [0, 1, 2, 3, 4, 5, 6, 7, 8, 9, 10, 11, 12, 13, 14], [0, 1, 2, 3, 4, 5, 6, 7, 8, 9, 10, 11, 12, 13, 14, 15], [0, 1, 2, 3, 4, 5, 6, 7, 8, 9, 10, 11, 12, 13, 14, 15, 16]] (fun (b : Nat → Bool) => mk 107 [] [(0, .d (.sl (a0.map (cL cS27)))), (2, .i v106), (7, .mref 20), (10, .ref 29 0 l342.length), (11, .ptr 11 0 0), (13, .ptr 13 0 0), (14, .ptr 14 0 0), (21, .d (.sl (a1.map (cL cS27)))), (22, .i (a1.length : Int)), (23, .i v108), (30, .d (.sl (x326.map cS27))), (31, .i (x326.length : Int)), (32, .i v344), (53, (if b 0 then .ref 29 0 l342.length else .junk)), (54, (if b 1 then .ptr 13 0 0 else .junk)), (55, (if b 2 then .i x379.Tx else .junk)), (56, (if b 3 then .ref 29 0 l342.length else .junk)), (57, (if b 4 then .ptr 13 0 0 else .junk)), (58, (if b 5 then .i x379.Tx else .junk)), (59, (if b 6 then .ptr 29 k386 0 else .junk)), (60, (if b 10 then .junk else (if b 7 then .ref 9387 0 x385.length else .junk))), (61, (if b 8 then .agg [.i x379.Tx, .i x379.Kind, .d (.lit (.string x379.Key))] else .junk)), (62, (if b 9 then .d (.sl ([x379].map cS27)) else .junk)), (63, (if b 10 then .ref 9387 0 ((x385 ++ [x379]).length) else .junk)), (64, (if b 14 then .junk else (if b 11 then .ref 67 0 l343.length else .junk))), (65, (if b 12 then .agg [.i x379.Tx, .i x379.Kind, .d (.lit (.string x379.Key))] else .junk)), (66, (if b 13 then .d (.sl ([x379].map cS27)) else .junk)), (67, (if b 14 then .ref 67 0 ((l343 ++ [x379]).length) else .junk)), (68, (if b 15 then .ptr 29 k386 0 else .junk))] [(11, (if b 17 then some (.box [.ref 67 0 ((l343 ++ [x379]).length)]) else (if b 14 then some (.box [.hole]) else some (.box [.ref 67 0 l343.length])))), (13, some (.box [.i x379.Tx, .i x379.Kind, .d (.lit (.string x379.Key))])), (14, some (.box [.i x379.Tx, .i x379.Kind, .d (.lit (.string x379.Key))])), (20, some (.mp .string (encM MKey.sk vB m107))), (29, (if b 16 then some (.nest 30 1 [some (34, 3)] (l342.map (cL cS27)) [(k386, [.ref 9387 0 ((x385 ++ [x379]).length)])]) else (if b 10 then some (.nest 30 1 [some (34, 3)] (l342.map (cL cS27)) [(k386, [.hole])]) else some (.nest 30 1 [some (34, 3)] (l342.map (cL cS27)) [(k386, [.ref 9387 0 x385.length])])))), (67, (if b 14 then R34 (l343 ++ [x379]) else R34 l343)), (9387, (if b 10 then R34 (x385 ++ [x379]) else R34 x385))]) (mk 107 [] [(0, .d (.sl (a0.map (cL cS27)))), (2, .i v106), (7, .mref 20), (10, .ref 29 0 l342.length), (11, .ptr 11 0 0), (21, .d (.sl (a1.map (cL cS27)))), (22, .i (a1.length : Int)), (23, .i v108), (30, .d (.sl (x326.map cS27))), (31, .i (x326.length : Int)), (32, .i v344)] [(11, some (.box [.ref 67 0 ((l343 ++ [x379]).length)])), (20, some (.mp .string (encM MKey.sk vB m107))), (29, some (.nest 30 1 [some (34, 3)] (l342.map (cL cS27)) [(k386, [.ref 9387 0 ((x385 ++ [x379]).length)])])), (67, R34 (l343 ++ [x379])), (9387, R34 (x385 ++ [x379]))]) (by kernel_rfl) (by kernel_rfl) Sub.tt (Steps.cons ?_ (Steps.cons ?_ (Steps.cons ?_ (Steps.cons ?_ (Steps.cons ?_ (Steps.cons ?_ (Steps.cons ?_ (Steps.cons ?_ (Steps.cons ?_ (Steps.cons ?_ (Steps.cons ?_ (Steps.cons ?_ (Steps.cons ?_ (Steps.cons ?_ (Steps.cons ?_ (Steps.cons ?_ (Steps.cons ?_ (Steps.cons ?_ (Steps.nil))))))))))))))))))) ?_ ?_
       ·intro b h0 ha hd
        have f15 : b 15 = false := hd 15 (by decide)
        have f16 : b 16 = false := hd 16 (by decide)
        have f17 : b 17 = false := hd 17 (by decide)
        refine Chain.runK [66, 62] 1 fun K hK => ?_; simp [h0, f15, f16, f17]; refine hK _ _ ?_; clear hK K
        exact Chain.nil (Sub.table (by simp [f15]) (by simp [f16, f17]))
       ·intro b h0 ha hd
        have f2 : b 2 = false := hd 2 (by decide)
        have f15 : b 15 = false := hd 15 (by decide)
        have f16 : b 16 = false := hd 16 (by decide)
        have f17 : b 17 = false := hd 17 (by decide)
        refine Chain.runK [66, 62] 1 fun K hK => ?_; simp [h0, f2, f15, f16, f17]; refine hK _ _ ?_; clear hK K
        exact Chain.nil (Sub.table (by simp [f2, f15]) (by simp [f16, f17]))
       ·intro b h0 ha hd
        have t1 : b 1 = true := ha 1 (by decide)
        have f15 : b 15 = false := hd 15 (by decide)
        have f16 : b 16 = false := hd 16 (by decide)
        have f17 : b 17 = false := hd 17 (by decide)
        refine Chain.runK [66, 62] 1 fun K hK => ?_; simp [h0, t1, f15, f16, f17]; refine hK _ _ ?_; clear hK K
        exact Chain.nil (Sub.table (by simp [t1, f15]) (by simp [f16, f17]))
       ·intro b h0 ha hd
        have f6 : b 6 = false := hd 6 (by decide)
        have f7 : b 7 = false := hd 7 (by decide)
        have f10 : b 10 = false := hd 10 (by decide)
        have f14 : b 14 = false := hd 14 (by decide)
        have f15 : b 15 = false := hd 15 (by decide)
        have f16 : b 16 = false := hd 16 (by decide)
        have f17 : b 17 = false := hd 17 (by decide)
        refine Chain.runK [66, 62] 1 fun K hK => ?_; simp [h0, f6, f7, f10, f14, f15, f16, f17]; refine hK _ _ ?_; clear hK K
        exact Chain.nil (Sub.table (by simp [f6, f7, f10, f14, f15]) (by simp [f10, f14, f16, f17]))
       ·intro b h0 ha hd
        have f5 : b 5 = false := hd 5 (by decide)
        have f6 : b 6 = false := hd 6 (by decide)
        have f7 : b 7 = false := hd 7 (by decide)
        have f10 : b 10 = false := hd 10 (by decide)
        have f14 : b 14 = false := hd 14 (by decide)
        have f15 : b 15 = false := hd 15 (by decide)
        have f16 : b 16 = false := hd 16 (by decide)
        have f17 : b 17 = false := hd 17 (by decide)
        refine Chain.runK [66, 62] 1 fun K hK => ?_; simp [h0, f5, f6, f7, f10, f14, f15, f16, f17]; refine hK _ _ ?_; clear hK K
        exact Chain.nil (Sub.table (by simp [f5, f6, f7, f10, f14, f15]) (by simp [f10, f14, f16, f17]))
       ·intro b h0 ha hd
        have t4 : b 4 = true := ha 4 (by decide)
        have f6 : b 6 = false := hd 6 (by decide)
        have f7 : b 7 = false := hd 7 (by decide)
        have f10 : b 10 = false := hd 10 (by decide)
        have f14 : b 14 = false := hd 14 (by decide)
        have f15 : b 15 = false := hd 15 (by decide)
        have f16 : b 16 = false := hd 16 (by decide)
        have f17 : b 17 = false := hd 17 (by decide)
        refine Chain.runK [66, 62] 1 fun K hK => ?_; simp [h0, t4, f6, f7, f10, f14, f15, f16, f17]; refine hK _ _ ?_; clear hK K
        exact Chain.nil (Sub.table (by simp [t4, f6, f7, f10, f14, f15]) (by simp [f10, f14, f16, f17]))
       ·intro b h0 ha hd
        have t3 : b 3 = true := ha 3 (by decide)
        have t4 : b 4 = true := ha 4 (by decide)
        have t5 : b 5 = true := ha 5 (by decide)
        have f7 : b 7 = false := hd 7 (by decide)
        have f10 : b 10 = false := hd 10 (by decide)
        have f14 : b 14 = false := hd 14 (by decide)
        have f15 : b 15 = false := hd 15 (by decide)
        have f16 : b 16 = false := hd 16 (by decide)
        have f17 : b 17 = false := hd 17 (by decide)
        refine Chain.runK [66, 62] 1 fun K hK => ?_; simp [h0, t3, t4, t5, f7, f10, f14, f15, f16, f17, hx385k, hx385a, hx385b]; refine hK _ _ ?_; clear hK K
        exact Chain.nil (Sub.table (by simp [t3, t4, t5, f7, f10, f14, f15]) (by simp [f10, f14, f16, f17]))
       ·intro b h0 ha hd
        have t3 : b 3 = true := ha 3 (by decide)
        have t4 : b 4 = true := ha 4 (by decide)
        have t5 : b 5 = true := ha 5 (by decide)
        have t6 : b 6 = true := ha 6 (by decide)
        have f10 : b 10 = false := hd 10 (by decide)
        have f14 : b 14 = false := hd 14 (by decide)
        have f15 : b 15 = false := hd 15 (by decide)
        have f16 : b 16 = false := hd 16 (by decide)
        have f17 : b 17 = false := hd 17 (by decide)
        refine Chain.runK [66, 62] 1 fun K hK => ?_; simp [h0, t3, t4, t5, t6, f10, f14, f15, f16, f17]; refine hK _ _ ?_; clear hK K
        exact Chain.nil (Sub.table (by simp [t3, t4, t5, t6, f10, f14, f15]) (by simp [f10, f14, f16, f17]))
       ·intro b h0 ha hd
        have f9 : b 9 = false := hd 9 (by decide)
        have f10 : b 10 = false := hd 10 (by decide)
        have f14 : b 14 = false := hd 14 (by decide)
        have f15 : b 15 = false := hd 15 (by decide)
        have f16 : b 16 = false := hd 16 (by decide)
        have f17 : b 17 = false := hd 17 (by decide)
        refine Chain.runK [66, 62] 1 fun K hK => ?_; simp [h0, f9, f10, f14, f15, f16, f17]; refine hK _ _ ?_; clear hK K
        exact Chain.nil (Sub.table (by simp [f9, f10, f14, f15]) (by simp [f10, f14, f16, f17]))
       ·intro b h0 ha hd
        have t8 : b 8 = true := ha 8 (by decide)
        have f10 : b 10 = false := hd 10 (by decide)
        have f14 : b 14 = false := hd 14 (by decide)
        have f15 : b 15 = false := hd 15 (by decide)
        have f16 : b 16 = false := hd 16 (by decide)
        have f17 : b 17 = false := hd 17 (by decide)
        refine Chain.runK [66, 62] 1 fun K hK => ?_; simp [h0, t8, f10, f14, f15, f16, f17]; refine hK _ _ ?_; clear hK K
        exact Chain.nil (Sub.table (by simp [t8, f10, f14, f15]) (by simp [f10, f14, f16, f17]))
       ·intro b h0 ha hd
        have t3 : b 3 = true := ha 3 (by decide)
        have t4 : b 4 = true := ha 4 (by decide)
        have t5 : b 5 = true := ha 5 (by decide)
        have t6 : b 6 = true := ha 6 (by decide)
        have t7 : b 7 = true := ha 7 (by decide)
        have t8 : b 8 = true := ha 8 (by decide)
        have t9 : b 9 = true := ha 9 (by decide)
        have f14 : b 14 = false := hd 14 (by decide)
        have f15 : b 15 = false := hd 15 (by decide)
        have f16 : b 16 = false := hd 16 (by decide)
        have f17 : b 17 = false := hd 17 (by decide)
        refine Chain.runK [66, 62] 1 fun K hK => ?_; simp [h0, t3, t4, t5, t6, t7, t8, t9, f14, f15, f16, f17, hl388a]; refine hK _ _ ?_; clear hK K
        exact Chain.nil (Sub.table (by simp [t3, t4, t5, t6, t8, t9, f14, f15]) (by simp [f14, f16, f17]))
       ·intro b h0 ha hd
        have f14 : b 14 = false := hd 14 (by decide)
        have f15 : b 15 = false := hd 15 (by decide)
        have f16 : b 16 = false := hd 16 (by decide)
        have f17 : b 17 = false := hd 17 (by decide)
        refine Chain.runK [66, 62] 1 fun K hK => ?_; simp [h0, f14, f15, f16, f17]; refine hK _ _ ?_; clear hK K
        exact Chain.nil (Sub.table (by simp [f14, f15]) (by simp [f14, f16, f17]))
       ·intro b h0 ha hd
        have f13 : b 13 = false := hd 13 (by decide)
        have f14 : b 14 = false := hd 14 (by decide)
        have f15 : b 15 = false := hd 15 (by decide)
        have f16 : b 16 = false := hd 16 (by decide)
        have f17 : b 17 = false := hd 17 (by decide)
        refine Chain.runK [66, 62] 1 fun K hK => ?_; simp [h0, f13, f14, f15, f16, f17]; refine hK _ _ ?_; clear hK K
        exact Chain.nil (Sub.table (by simp [f13, f14, f15]) (by simp [f14, f16, f17]))
       ·intro b h0 ha hd
        have t12 : b 12 = true := ha 12 (by decide)
        have f14 : b 14 = false := hd 14 (by decide)
        have f15 : b 15 = false := hd 15 (by decide)
        have f16 : b 16 = false := hd 16 (by decide)
        have f17 : b 17 = false := hd 17 (by decide)
        cases q10 : b 10 <;> (refine Chain.runK [66, 62] 1 fun K hK => ?_; simp [h0, t12, f14, f15, f16, f17]; refine hK _ _ ?_; clear hK K; exact Chain.nil (Sub.table (by simp [t12, f14, f15, q10]) (by simp [f14, f16, f17, q10])))
       ·intro b h0 ha hd
        have t3 : b 3 = true := ha 3 (by decide)
        have t4 : b 4 = true := ha 4 (by decide)
        have t5 : b 5 = true := ha 5 (by decide)
        have t6 : b 6 = true := ha 6 (by decide)
        have t7 : b 7 = true := ha 7 (by decide)
        have t8 : b 8 = true := ha 8 (by decide)
        have t9 : b 9 = true := ha 9 (by decide)
        have t10 : b 10 = true := ha 10 (by decide)
        have t11 : b 11 = true := ha 11 (by decide)
        have t12 : b 12 = true := ha 12 (by decide)
        have t13 : b 13 = true := ha 13 (by decide)
        have f15 : b 15 = false := hd 15 (by decide)
        have f16 : b 16 = false := hd 16 (by decide)
        have f17 : b 17 = false := hd 17 (by decide)
        refine Chain.runK [66, 62] 1 fun K hK => ?_; simp [h0, t3, t4, t5, t6, t8, t9, t10, t11, t12, t13, f15, f16, f17, hl389a]; refine hK _ _ ?_; clear hK K
        exact Chain.nil (Sub.table (by simp [t3, t4, t5, t6, t8, t9, t10, t12, t13, f15]) (by simp [t10, f16, f17]))
       ·intro b h0 ha hd
        have t0 : b 0 = true := ha 0 (by decide)
        have t1 : b 1 = true := ha 1 (by decide)
        have t2 : b 2 = true := ha 2 (by decide)
        have t3 : b 3 = true := ha 3 (by decide)
        have t4 : b 4 = true := ha 4 (by decide)
        have t5 : b 5 = true := ha 5 (by decide)
        have t6 : b 6 = true := ha 6 (by decide)
        have t7 : b 7 = true := ha 7 (by decide)
        have t8 : b 8 = true := ha 8 (by decide)
        have t9 : b 9 = true := ha 9 (by decide)
        have t10 : b 10 = true := ha 10 (by decide)
        have t11 : b 11 = true := ha 11 (by decide)
        have t12 : b 12 = true := ha 12 (by decide)
        have t13 : b 13 = true := ha 13 (by decide)
        have t14 : b 14 = true := ha 14 (by decide)
        have f16 : b 16 = false := hd 16 (by decide)
        have f17 : b 17 = false := hd 17 (by decide)
        refine Chain.runK [66, 62] 1 fun K hK => ?_; simp [h0, t0, t1, t2, t3, t4, t5, t6, t8, t9, t10, t12, t13, t14, f16, f17, hx385k, hx385a, hx385b]; refine hK _ _ ?_; clear hK K
        exact Chain.nil (Sub.table (by simp [t0, t1, t2, t3, t4, t5, t6, t8, t9, t10, t12, t13, t14]) (by simp [t10, t14, f16, f17]))
       ·intro b h0 ha hd
        have t0 : b 0 = true := ha 0 (by decide)
        have t1 : b 1 = true := ha 1 (by decide)
        have t2 : b 2 = true := ha 2 (by decide)
        have t3 : b 3 = true := ha 3 (by decide)
        have t4 : b 4 = true := ha 4 (by decide)
        have t5 : b 5 = true := ha 5 (by decide)
        have t6 : b 6 = true := ha 6 (by decide)
        have t7 : b 7 = true := ha 7 (by decide)
        have t8 : b 8 = true := ha 8 (by decide)
        have t9 : b 9 = true := ha 9 (by decide)
        have t10 : b 10 = true := ha 10 (by decide)
        have t11 : b 11 = true := ha 11 (by decide)
        have t12 : b 12 = true := ha 12 (by decide)
        have t13 : b 13 = true := ha 13 (by decide)
        have t14 : b 14 = true := ha 14 (by decide)
        have t15 : b 15 = true := ha 15 (by decide)
        have f17 : b 17 = false := hd 17 (by decide)
        refine Chain.runK [66, 62] 1 fun K hK => ?_; simp [h0, t0, t1, t2, t3, t4, t5, t6, t8, t9, t10, t12, t13, t14, t15, f17]; refine hK _ _ ?_; clear hK K
        exact Chain.nil (Sub.table (by simp [t0, t1, t2, t3, t4, t5, t6, t8, t9, t10, t12, t13, t14, t15]) (by simp [t10, t14, f17]))
       ·intro b h0 ha hd
        have t0 : b 0 = true := ha 0 (by decide)
        have t1 : b 1 = true := ha 1 (by decide)
        have t2 : b 2 = true := ha 2 (by decide)
        have t3 : b 3 = true := ha 3 (by decide)
        have t4 : b 4 = true := ha 4 (by decide)
        have t5 : b 5 = true := ha 5 (by decide)
        have t6 : b 6 = true := ha 6 (by decide)
        have t7 : b 7 = true := ha 7 (by decide)
        have t8 : b 8 = true := ha 8 (by decide)
        have t9 : b 9 = true := ha 9 (by decide)
        have t10 : b 10 = true := ha 10 (by decide)
        have t11 : b 11 = true := ha 11 (by decide)
        have t12 : b 12 = true := ha 12 (by decide)
        have t13 : b 13 = true := ha 13 (by decide)
        have t14 : b 14 = true := ha 14 (by decide)
        have t15 : b 15 = true := ha 15 (by decide)
        have t16 : b 16 = true := ha 16 (by decide)
        refine Chain.runK [66, 62] 1 fun K hK => ?_; simp [h0, t0, t1, t2, t3, t4, t5, t6, t8, t9, t10, t12, t13, t14, t15, t16]; refine hK _ _ ?_; clear hK K
        exact Chain.nil (Sub.table (by simp [t0, t1, t2, t3, t4, t5, t6, t8, t9, t10, t12, t13, t14, t15]) (by simp [t10, t14, t16]))
       ·intro b hb
        have t0 := hb 0 (by decide)
        have t1 := hb 1 (by decide)
        have t2 := hb 2 (by decide)
        have t3 := hb 3 (by decide)
        have t4 := hb 4 (by decide)
        have t5 := hb 5 (by decide)
        have t6 := hb 6 (by decide)
        have t7 := hb 7 (by decide)
        have t8 := hb 8 (by decide)
        have t9 := hb 9 (by decide)
        have t10 := hb 10 (by decide)
        have t11 := hb 11 (by decide)
        have t12 := hb 12 (by decide)
        have t13 := hb 13 (by decide)
        have t14 := hb 14 (by decide)
        have t15 := hb 15 (by decide)
        have t16 := hb 16 (by decide)
        have t17 := hb 17 (by decide)
        exact Sub.table (by simp [t0, t1, t2, t3, t4, t5, t6, t8, t9, t10, t12, t13, t14, t15]) (by simp [t10, t14, t16, t17])
       ·skip
        replace h := lsome h; obtain ⟨l390, gl390, h⟩ := h
        obtain ⟨hl390, hl390n⟩ := setI_some (cL cS27) gl390 hx385k
        replace hl390 : (l342.map (cL cS27)).set k386 [.sl ((x385 ++ [x379]).map cS27)] = l390.map (cL cS27) := hl390
        clear gl390
        try simp only [List.map_append, List.map_cons, List.map_nil, cS27] at hl390
        refine blockQ.normal ?_
        refine thenQ_normal ?_
        refine AW.sub (show Sub _ (mk 107 [] [(0, .d (.sl (a0.map (cL cS27)))), (2, .i v106), (7, .mref 20), (10, .ref 29 0 l390.length), (11, .ptr 11 0 0), (21, .d (.sl (a1.map (cL cS27)))), (22, .i (a1.length : Int)), (23, .i v108), (30, .d (.sl (x326.map cS27))), (31, .i (x326.length : Int)), (32, .i v344)] [(11, some (.box [.ref 67 0 ((l343 ++ [x379]).length)])), (20, some (.mp .string (encM MKey.sk vB m107))), (29, some (.nest 30 1 [some (34, 3)] (l390.map (cL cS27)) [])), (67, R34 (l343 ++ [x379]))]) from (Sub.trans (Sub.close 29 k386 (e := [.sl ((x385 ++ [x379]).map cS27)]) (cs := [.ref 9387 0 ((x385 ++ [x379]).length)]) (ks := [9387]) rfl rfl (by simp) (by decide) rfl) (by simp [hl390]; exact Sub.table (by simp [hl390n]) (by simp)))) ?_
        refine AW.region ?_
        replace h := bsome h; obtain ⟨v391, hv391, h⟩ := h
        have hv391 := chkI_some hv391
        refine Chain.runK [] 2 fun K hK => ?_; simp [hv391]; refine hK _ _ ?_; clear hK K
        refine Chain.sub (S' := mk 107 [] [(0, .d (.sl (a0.map (cL cS27)))), (2, .i v106), (7, .mref 20), (10, .ref 29 0 l390.length), (11, .ptr 11 0 0), (21, .d (.sl (a1.map (cL cS27)))), (22, .i (a1.length : Int)), (23, .i v108), (30, .d (.sl (x326.map cS27))), (31, .i (x326.length : Int)), (32, .i v391)] [(11, some (.box [.ref 67 0 ((l343 ++ [x379]).length)])), (20, some (.mp .string (encM MKey.sk vB m107))), (29, some (.nest 30 1 [some (34, 3)] (l390.map (cL cS27)) [])), (67, R34 (l343 ++ [x379]))]) Sub.tt ?_
        refine Chain.nil ?_
        cases h
        refine PostI.next ?_
        exact Sub.tt
    ·have c378_ : decide (v344 < (x326.length : Int)) = false := decide_eq_false c378
     refine AW.condF (b := decide (v344 < (x326.length : Int))) rfl c378_ ?_
     refine AW.sub (Sub.bool 33 (b := decide (v344 < (x326.length : Int))) rfl c378_) ?_
     refine AW.sub (S' := mk 107 [] [(0, .d (.sl (a0.map (cL cS27)))), (2, .i v106), (7, .mref 20), (10, .ref 29 0 l342.length), (11, .ptr 11 0 0), (21, .d (.sl (a1.map (cL cS27)))), (22, .i (a1.length : Int)), (23, .i v108), (30, .d (.sl (x326.map cS27))), (31, .i (x326.length : Int)), (32, .i v344), (33, .b false)] [(11, some (.box [.ref 67 0 l343.length])), (20, some (.mp .string (encM MKey.sk vB m107))), (29, some (.nest 30 1 [some (34, 3)] (l342.map (cL cS27)) [])), (67, R34 l343)]) (by simp; exact Sub.table (by simp) (by simp)) ?_
     refine AW.exit ?_
     cases h
     refine thenQ_pass (by simp) ?_
     refine PostI.out (by simp) ?_
     rintro rfl
     refine blockQ.hit ?_
     refine PostJ.next ?_
     exact Sub.tt
   ·rintro ⟨l376, l377⟩ h
    dsimp only at h ⊢
    refine thenQ_normal ?_
    refine AW.seq ?_
    refine AW.seqR ?_
    refine Chain.runK [] 2 fun K hK => ?_; simp; refine hK _ _ ?_; clear hK K
    refine Chain.sub (S' := mk 107 [] [(0, .d (.sl (a0.map (cL cS27)))), (2, .i v106), (7, .mref 20), (11, .ptr 11 0 0), (21, .d (.sl (a1.map (cL cS27)))), (22, .i (a1.length : Int)), (23, .i v108), (70, .ref 29 0 l376.length), (71, .d (.sl (a0.map (cL cS27))))] [(11, some (.box [.ref 67 0 l377.length])), (20, some (.mp .string (encM MKey.sk vB m107))), (29, some (.nest 30 1 [some (34, 3)] (l376.map (cL cS27)) [])), (67, R34 l377)]) Sub.tt ?_
    replace h := bsome h; obtain ⟨r392, hr392, h⟩ := h
    refine Chain.callL (d := 72) (FunC.argsF (args := [.d (.sl (l376.map (cL cS27))), .d (.sl (a0.map (cL cS27))), .d (.lit (.func (.func 21) #[] #[]))]) (p20 N l376 a0 21 [] (fun b0 b1 => d21 N b0 b1 ) ent21 (fun b0 b1 r h => p21 N b0 b1  r h) r392 hr392) (by simp [V.wf]) rfl) (by simp) rfl rfl (by simp <;> rfl) (by simp <;> rfl) ent20 (by simp <;> rfl) ?_
    refine Chain.sub (S' := mk 107 [] [(0, .d (.sl (a0.map (cL cS27)))), (2, .i v106), (7, .mref 20), (11, .ptr 11 0 0), (21, .d (.sl (a1.map (cL cS27)))), (22, .i (a1.length : Int)), (23, .i v108), (70, .ref 29 0 l376.length), (71, .d (.sl (a0.map (cL cS27)))), (72, .b r392)] [(11, some (.box [.ref 67 0 l377.length])), (20, some (.mp .string (encM MKey.sk vB m107))), (29, some (.nest 30 1 [some (34, 3)] (l376.map (cL cS27)) [])), (67, R34 l377)]) (by simp; exact Sub.table (by simp) (by simp)) ?_
    refine Chain.runK [] 1 fun K hK => ?_; simp; refine hK _ _ ?_; clear hK K
    refine Chain.sub (S' := mk 107 [] [(0, .d (.sl (a0.map (cL cS27)))), (2, .i v106), (7, .mref 20), (11, .ptr 11 0 0), (21, .d (.sl (a1.map (cL cS27)))), (22, .i (a1.length : Int)), (23, .i v108), (73, .b (!r392))] [(11, some (.box [.ref 67 0 l377.length])), (20, some (.mp .string (encM MKey.sk vB m107))), (67, R34 l377)]) Sub.tt ?_
    refine Chain.nil ?_
    replace h := isome h; rcases h with ⟨c393, h⟩ | ⟨c393, h⟩
    ·have c393_ : (!r392) = true := c393
     refine AW.condT (b := (!r392)) rfl c393_ ?_
     refine AW.sub (Sub.bool 73 (b := (!r392)) rfl c393_) ?_
     refine AW.sub (S' := mk 107 [] [(0, .d (.sl (a0.map (cL cS27)))), (2, .i v106), (7, .mref 20), (11, .ptr 11 0 0), (21, .d (.sl (a1.map (cL cS27)))), (22, .i (a1.length : Int)), (23, .i v108), (73, .b true)] [(11, some (.box [.ref 67 0 l377.length])), (20, some (.mp .string (encM MKey.sk vB m107))), (67, R34 l377)]) (by simp; exact Sub.table (by simp) (by simp)) ?_
     refine AW.seqR ?_
     refine Chain.runK [] 1 fun K hK => ?_; simp; refine hK _ _ ?_; clear hK K
     refine Chain.sub (S' := mk 107 [] [(6, .b false)] []) Sub.tt ?_
     refine Chain.nil ?_
     refine AW.ret ?_
     cases h
     refine thenQ_pass (by simp) ?_
     refine blockQ.ret ?_
     refine thenQ_pass (by simp) ?_
     refine PostI.out (by simp) ?_
     rintro rfl
     refine blockQ.ret ?_
     refine PostJ.out (by simp) ?_
     rintro rfl
     refine thenQ_pass (by simp) ?_
     exact FinC.ret (by simp) (by simp)
    ·have c393_ : (!r392) = false := Bool.eq_false_iff.2 c393
     refine AW.condF (b := (!r392)) rfl c393_ ?_
     refine AW.sub (Sub.bool 73 (b := (!r392)) rfl c393_) ?_
     refine AW.sub (S' := mk 107 [] [(0, .d (.sl (a0.map (cL cS27)))), (2, .i v106), (7, .mref 20), (11, .ptr 11 0 0), (21, .d (.sl (a1.map (cL cS27)))), (22, .i (a1.length : Int)), (23, .i v108), (73, .b false)] [(11, some (.box [.ref 67 0 l377.length])), (20, some (.mp .string (encM MKey.sk vB m107))), (67, R34 l377)]) (by simp; exact Sub.table (by simp) (by simp)) ?_
     refine AW.skip ?_
     refine thenQ_normal ?_
     refine AW.seqR ?_
     refine Chain.runK [] 1 fun K hK => ?_; simp; refine hK _ _ ?_; clear hK K
     refine Chain.sub (S' := mk 107 [] [(0, .d (.sl (a0.map (cL cS27)))), (2, .i v106), (7, .mref 20), (11, .ptr 11 0 0), (15, .d (.lit (.string (ByteArray.mk #[])))), (21, .d (.sl (a1.map (cL cS27)))), (22, .i (a1.length : Int)), (23, .i v108)] [(11, some (.box [.ref 67 0 l377.length])), (20, some (.mp .string (encM MKey.sk vB m107))), (67, R34 l377)]) Sub.tt ?_
     refine Chain.nil ?_
     refine AW.seq ?_
     refine AW.seqR ?_
     refine Chain.runK [] 1 fun K hK => ?_; simp; refine hK _ _ ?_; clear hK K
     refine Chain.sub (S' := mk 107 [] [(0, .d (.sl (a0.map (cL cS27)))), (2, .i v106), (7, .mref 20), (11, .ptr 11 0 0), (15, .d (.lit (.string (ByteArray.mk #[])))), (21, .d (.sl (a1.map (cL cS27)))), (22, .i (a1.length : Int)), (23, .i v108), (74, .ref 67 0 l377.length)] [(11, some (.box [.ref 67 0 l377.length])), (20, some (.mp .string (encM MKey.sk vB m107))), (67, R34 l377)]) Sub.tt ?_
     refine Chain.sub (Sub.freeze 67 rfl) ?_
     refine Chain.sub (S' := mk 107 [] [(0, .d (.sl (a0.map (cL cS27)))), (2, .i v106), (7, .mref 20), (11, .ptr 11 0 0), (15, .d (.lit (.string (ByteArray.mk #[])))), (21, .d (.sl (a1.map (cL cS27)))), (22, .i (a1.length : Int)), (23, .i v108), (74, .d (.sl (l377.map cS27)))] [(11, some (.box [.d (.sl (l377.map cS27))])), (20, some (.mp .string (encM MKey.sk vB m107)))]) (by simp; exact Sub.table (by simp) (by simp)) ?_
     replace h := bsome h; obtain ⟨r394, hr394, h⟩ := h
     refine Chain.callC (d := 75) (p23 N l377 r394 hr394) (by simp) rfl rfl (by simp <;> rfl) (by simp <;> rfl) ent23 (by simp) (.inl ⟨by simp, by simp⟩) ?_
     refine Chain.sub (S' := mk 107 [] [(0, .d (.sl (a0.map (cL cS27)))), (2, .i v106), (7, .mref 20), (11, .ptr 11 0 0), (15, .d (.lit (.string (ByteArray.mk #[])))), (21, .d (.sl (a1.map (cL cS27)))), (22, .i (a1.length : Int)), (23, .i v108), (74, .d (.sl (l377.map cS27))), (75, .d (.sl (r394.map cS27)))] [(11, some (.box [.d (.sl (l377.map cS27))])), (20, some (.mp .string (encM MKey.sk vB m107)))]) (by simp; exact Sub.table (by simp) (by simp)) ?_
     refine Chain.runK [] 2 fun K hK => ?_; simp; refine hK _ _ ?_; clear hK K
     refine Chain.sub (S' := mk 107 [] [(0, .d (.sl (a0.map (cL cS27)))), (2, .i v106), (7, .mref 20), (11, .ptr 11 0 0), (15, .d (.lit (.string (ByteArray.mk #[])))), (21, .d (.sl (a1.map (cL cS27)))), (22, .i (a1.length : Int)), (23, .i v108), (75, .d (.sl (r394.map cS27))), (76, .i (r394.length : Int)), (77, .i 0)] [(11, some (.box [.d (.sl (l377.map cS27))])), (20, some (.mp .string (encM MKey.sk vB m107)))]) Sub.tt ?_
     refine Chain.nil ?_
     refine AW.lastN (fun (v416 : ByteArray) => mk 107 [] [(0, .d (.sl (a0.map (cL cS27)))), (2, .i v106), (7, .mref 20), (11, .ptr 11 0 0), (15, .d (.lit (.string v416))), (21, .d (.sl (a1.map (cL cS27)))), (22, .i (a1.length : Int)), (23, .i v108)] [(11, some (.box [.d (.sl (l377.map cS27))])), (20, some (.mp .string (encM MKey.sk vB m107)))]) h ?_ ?_ <;> clear h
     ·intro o h
      refine AW.block ?_
      refine AW.iter (fun ((v400, v401) : (ByteArray × Int)) => mk 107 [] [(0, .d (.sl (a0.map (cL cS27)))), (2, .i v106), (7, .mref 20), (11, .ptr 11 0 0), (15, .d (.lit (.string v400))), (21, .d (.sl (a1.map (cL cS27)))), (22, .i (a1.length : Int)), (23, .i v108), (75, .d (.sl (r394.map cS27))), (76, .i (r394.length : Int)), (77, .i v401)] [(11, some (.box [.d (.sl (l377.map cS27))])), (20, some (.mp .string (encM MKey.sk vB m107)))]) h Sub.tt ?_
      clear h
      rintro ⟨v400, v401⟩ x h
      dsimp only at h ⊢
      refine AW.seqR ?_
      refine Chain.runK [] 1 fun K hK => ?_; simp; refine hK _ _ ?_; clear hK K
      refine Chain.sub (S' := mk 107 [] [(0, .d (.sl (a0.map (cL cS27)))), (2, .i v106), (7, .mref 20), (11, .ptr 11 0 0), (15, .d (.lit (.string v400))), (21, .d (.sl (a1.map (cL cS27)))), (22, .i (a1.length : Int)), (23, .i v108), (75, .d (.sl (r394.map cS27))), (76, .i (r394.length : Int)), (77, .i v401), (78, .b (decide (v401 < (r394.length : Int))))] [(11, some (.box [.d (.sl (l377.map cS27))])), (20, some (.mp .string (encM MKey.sk vB m107)))]) Sub.tt ?_
      refine Chain.nil ?_
      refine AW.seq ?_
      replace h := isome h; rcases h with ⟨c417, h⟩ | ⟨c417, h⟩
      ·have c417_ : decide (v401 < (r394.length : Int)) = true := decide_eq_true c417
       refine AW.condT (b := decide (v401 < (r394.length : Int))) rfl c417_ ?_
       refine AW.sub (Sub.bool 78 (b := decide (v401 < (r394.length : Int))) rfl c417_) ?_
       refine AW.sub (S' := mk 107 [] [(0, .d (.sl (a0.map (cL cS27)))), (2, .i v106), (7, .mref 20), (11, .ptr 11 0 0), (15, .d (.lit (.string v400))), (21, .d (.sl (a1.map (cL cS27)))), (22, .i (a1.length : Int)), (23, .i v108), (75, .d (.sl (r394.map cS27))), (76, .i (r394.length : Int)), (77, .i v401), (78, .b true)] [(11, some (.box [.d (.sl (l377.map cS27))])), (20, some (.mp .string (encM MKey.sk vB m107)))]) (by simp; exact Sub.table (by simp) (by simp)) ?_
       refine AW.skip ?_
       refine thenQ_normal ?_
       refine AW.seq ?_
       refine AW.block ?_
       refine AW.seqR ?_
       replace h := bsome h; obtain ⟨x418, hx418, h⟩ := h
       obtain ⟨k419, hx418k, hx418, hx418a, hx418b⟩ := idx_some hx418
       refine Chain.runK [] 4 fun K hK => ?_; simp [hx418, hx418k, hx418a]; refine hK _ _ ?_; clear hK K
       refine Chain.sub (S' := mk 107 [] [(0, .d (.sl (a0.map (cL cS27)))), (2, .i v106), (7, .mref 20), (11, .ptr 11 0 0), (15, .d (.lit (.string v400))), (17, .ptr 17 0 0), (21, .d (.sl (a1.map (cL cS27)))), (22, .i (a1.length : Int)), (23, .i v108), (75, .d (.sl (r394.map cS27))), (76, .i (r394.length : Int)), (77, .i v401)] [(11, some (.box [.d (.sl (l377.map cS27))])), (17, some (.box [.i x418.Tx, .i x418.Kind, .d (.lit (.string x418.Key))])), (20, some (.mp .string (encM MKey.sk vB m107)))]) Sub.tt ?_
       refine Chain.nil ?_
       refine AW.region ?_
       replace h := lsome h; obtain ⟨v420, hv420, h⟩ := h
       refine Chain.runK [85] 5 fun K hK => ?_; simp [hv420]; refine hK _ _ ?_; clear hK K
       refine Chain.sub (S' := mk 107 [] [(0, .d (.sl (a0.map (cL cS27)))), (2, .i v106), (7, .mref 20), (11, .ptr 11 0 0), (21, .d (.sl (a1.map (cL cS27)))), (22, .i (a1.length : Int)), (23, .i v108), (75, .d (.sl (r394.map cS27))), (76, .i (r394.length : Int)), (77, .i v401), (81, .d (.lit (.string v400))), (85, .d (.sl ([v420].map (cI .u8))))] [(11, some (.box [.d (.sl (l377.map cS27))])), (20, some (.mp .string (encM MKey.sk vB m107)))]) Sub.tt ?_
       refine Chain.pureP (by simp) (pure_b2s [v420] ty58 rfl ty9 rfl ty5 rfl rfl) ?_
       refine Chain.sub (S' := mk 107 [] [(0, .d (.sl (a0.map (cL cS27)))), (2, .i v106), (7, .mref 20), (11, .ptr 11 0 0), (21, .d (.sl (a1.map (cL cS27)))), (22, .i (a1.length : Int)), (23, .i v108), (75, .d (.sl (r394.map cS27))), (76, .i (r394.length : Int)), (77, .i v401), (81, .d (.lit (.string v400))), (85, .d (.sl ([v420].map (cI .u8)))), (86, .d (.lit (.string (bstr [v420]))))] [(11, some (.box [.d (.sl (l377.map cS27))])), (20, some (.mp .string (encM MKey.sk vB m107)))]) (by simp; exact Sub.table (by simp) (by simp)) ?_
       replace h := bsome h; obtain ⟨v421, gv421, h⟩ := h
       obtain ⟨hv421a, hv421⟩ := catB_some gv421
       refine Chain.runK [85] 2 fun K hK => ?_; simp [hv421, hv421a]; refine hK _ _ ?_; clear hK K
       refine Chain.sub (S' := mk 107 [] [(0, .d (.sl (a0.map (cL cS27)))), (2, .i v106), (7, .mref 20), (11, .ptr 11 0 0), (15, .d (.lit (.string v421))), (21, .d (.sl (a1.map (cL cS27)))), (22, .i (a1.length : Int)), (23, .i v108), (75, .d (.sl (r394.map cS27))), (76, .i (r394.length : Int)), (77, .i v401)] [(11, some (.box [.d (.sl (l377.map cS27))])), (20, some (.mp .string (encM MKey.sk vB m107)))]) Sub.tt ?_
       refine Chain.nil ?_
       refine blockQ.normal ?_
       refine thenQ_normal ?_
       refine AW.region ?_
       replace h := bsome h; obtain ⟨v422, hv422, h⟩ := h
       have hv422 := chkI_some hv422
       refine Chain.runK [] 2 fun K hK => ?_; simp [hv422]; refine hK _ _ ?_; clear hK K
       refine Chain.sub (S' := mk 107 [] [(0, .d (.sl (a0.map (cL cS27)))), (2, .i v106), (7, .mref 20), (11, .ptr 11 0 0), (15, .d (.lit (.string v421))), (21, .d (.sl (a1.map (cL cS27)))), (22, .i (a1.length : Int)), (23, .i v108), (75, .d (.sl (r394.map cS27))), (76, .i (r394.length : Int)), (77, .i v422)] [(11, some (.box [.d (.sl (l377.map cS27))])), (20, some (.mp .string (encM MKey.sk vB m107)))]) Sub.tt ?_
       refine Chain.nil ?_
       cases h
       refine PostI.next ?_
       exact Sub.tt
      ·have c417_ : decide (v401 < (r394.length : Int)) = false := decide_eq_false c417
       refine AW.condF (b := decide (v401 < (r394.length : Int))) rfl c417_ ?_
       refine AW.sub (Sub.bool 78 (b := decide (v401 < (r394.length : Int))) rfl c417_) ?_
       refine AW.sub (S' := mk 107 [] [(0, .d (.sl (a0.map (cL cS27)))), (2, .i v106), (7, .mref 20), (11, .ptr 11 0 0), (15, .d (.lit (.string v400))), (21, .d (.sl (a1.map (cL cS27)))), (22, .i (a1.length : Int)), (23, .i v108), (75, .d (.sl (r394.map cS27))), (76, .i (r394.length : Int)), (77, .i v401), (78, .b false)] [(11, some (.box [.d (.sl (l377.map cS27))])), (20, some (.mp .string (encM MKey.sk vB m107)))]) (by simp; exact Sub.table (by simp) (by simp)) ?_
       refine AW.exit ?_
       cases h
       refine thenQ_pass (by simp) ?_
       refine PostI.out (by simp) ?_
       rintro rfl
       refine blockQ.hit ?_
       refine PostN.next ?_
       exact Sub.tt
     ·rintro v416 h
      refine thenQ_normal ?_
      refine AW.seq ?_
      refine AW.seqR ?_
      refine Chain.runK [] 2 fun K hK => ?_; simp; refine hK _ _ ?_; clear hK K
      refine Chain.sub (S' := mk 107 [] [(0, .d (.sl (a0.map (cL cS27)))), (2, .i v106), (7, .mref 20), (11, .ptr 11 0 0), (15, .d (.lit (.string v416))), (21, .d (.sl (a1.map (cL cS27)))), (22, .i (a1.length : Int)), (23, .i v108), (89, .mref 20), (90, .d (.lit (.string v416)))] [(11, some (.box [.d (.sl (l377.map cS27))])), (20, some (.mp .string (encM MKey.sk vB m107)))]) Sub.tt ?_
      replace h := lsome h; obtain ⟨v423, hv423, h⟩ := h
      refine Chain.lookE (vf := vB) sk_inj m107 v416 false (by simp) rfl ty54 rfl ty9 ty4 rfl rfl rfl rfl rfl rfl rfl ?_
      refine Chain.sub (S' := mk 107 [] [(0, .d (.sl (a0.map (cL cS27)))), (2, .i v106), (7, .mref 20), (11, .ptr 11 0 0), (15, .d (.lit (.string v416))), (21, .d (.sl (a1.map (cL cS27)))), (22, .i (a1.length : Int)), (23, .i v108), (89, .mref 20), (90, .d (.lit (.string v416))), (91, .b v423)] [(11, some (.box [.d (.sl (l377.map cS27))])), (20, some (.mp .string (encM MKey.sk vB m107)))]) (by simp [vB, hv423]; exact Sub.table (by simp) (by simp)) ?_
      refine Chain.nil ?_
      replace h := isome h; rcases h with ⟨c424, h⟩ | ⟨c424, h⟩
      ·have c424_ : v423 = true := c424
       refine AW.condT (b := v423) rfl c424_ ?_
       refine AW.sub (Sub.bool 91 (b := v423) rfl c424_) ?_
       refine AW.sub (S' := mk 107 [] [(0, .d (.sl (a0.map (cL cS27)))), (2, .i v106), (7, .mref 20), (11, .ptr 11 0 0), (15, .d (.lit (.string v416))), (21, .d (.sl (a1.map (cL cS27)))), (22, .i (a1.length : Int)), (23, .i v108), (91, .b true)] [(11, some (.box [.d (.sl (l377.map cS27))])), (20, some (.mp .string (encM MKey.sk vB m107)))]) (by simp; exact Sub.table (by simp) (by simp)) ?_
       refine AW.seqR ?_
       refine Chain.runK [] 1 fun K hK => ?_; simp; refine hK _ _ ?_; clear hK K
       refine Chain.sub (S' := mk 107 [] [(6, .b false)] []) Sub.tt ?_
       refine Chain.nil ?_
       refine AW.ret ?_
       cases h
       refine thenQ_pass (by simp) ?_
       refine blockQ.ret ?_
       refine thenQ_pass (by simp) ?_
       refine PostI.out (by simp) ?_
       rintro rfl
       refine blockQ.ret ?_
       refine PostJ.out (by simp) ?_
       rintro rfl
       refine thenQ_pass (by simp) ?_
       exact FinC.ret (by simp) (by simp)
      ·have c424_ : v423 = false := Bool.eq_false_iff.2 c424
       refine AW.condF (b := v423) rfl c424_ ?_
       refine AW.sub (Sub.bool 91 (b := v423) rfl c424_) ?_
       refine AW.sub (S' := mk 107 [] [(0, .d (.sl (a0.map (cL cS27)))), (2, .i v106), (7, .mref 20), (11, .ptr 11 0 0), (15, .d (.lit (.string v416))), (21, .d (.sl (a1.map (cL cS27)))), (22, .i (a1.length : Int)), (23, .i v108), (91, .b false)] [(11, some (.box [.d (.sl (l377.map cS27))])), (20, some (.mp .string (encM MKey.sk vB m107)))]) (by simp; exact Sub.table (by simp) (by simp)) ?_
       refine AW.skip ?_
       refine thenQ_normal ?_
       refine AW.seqR ?_
       refine Chain.runK [] 2 fun K hK => ?_; simp; refine hK _ _ ?_; clear hK K
       refine Chain.sub (S' := mk 107 [] [(0, .d (.sl (a0.map (cL cS27)))), (2, .i v106), (7, .mref 20), (11, .ptr 11 0 0), (21, .d (.sl (a1.map (cL cS27)))), (22, .i (a1.length : Int)), (23, .i v108), (92, .mref 20), (93, .d (.lit (.string v416)))] [(11, some (.box [.d (.sl (l377.map cS27))])), (20, some (.mp .string (encM MKey.sk vB m107)))]) Sub.tt ?_
       refine Chain.msetE (vf := vB) sk_inj m107 v416 true (by simp) (.inl rfl) ty54 rfl ty9 rfl rfl rfl rfl rfl rfl rfl ?_
       refine Chain.sub (S' := mk 107 [] [(0, .d (.sl (a0.map (cL cS27)))), (2, .i v106), (7, .mref 20), (11, .ptr 11 0 0), (21, .d (.sl (a1.map (cL cS27)))), (22, .i (a1.length : Int)), (23, .i v108), (92, .mref 20), (93, .d (.lit (.string v416)))] [(11, some (.box [.d (.sl (l377.map cS27))])), (20, some (.mp .string (encM MKey.sk vB (mput m107 v416 true))))]) (by simp; exact Sub.table (by simp) (by simp)) ?_
       refine Chain.nil ?_
       refine AW.seqR ?_
       refine Chain.runK [] 1 fun K hK => ?_; simp; refine hK _ _ ?_; clear hK K
       refine Chain.sub (S' := mk 107 [] [(0, .d (.sl (a0.map (cL cS27)))), (2, .i v106), (7, .mref 20), (11, .ptr 11 0 0), (21, .d (.sl (a1.map (cL cS27)))), (22, .i (a1.length : Int)), (23, .i v108), (95, .d (.sl (l377.map cS27)))] [(11, some (.box [.d (.sl (l377.map cS27))])), (20, some (.mp .string (encM MKey.sk vB (mput m107 v416 true))))]) Sub.tt ?_
       replace h := bsome h; obtain ⟨r425, hr425, h⟩ := h
       refine Chain.callC (d := 96) (p25 N l377 r425 hr425) (by simp) rfl rfl (by simp <;> rfl) (by simp <;> rfl) ent25 (by simp) (.inl ⟨by simp, by simp⟩) ?_
       refine Chain.sub (S' := mk 107 [] [(0, .d (.sl (a0.map (cL cS27)))), (2, .i v106), (7, .mref 20), (11, .ptr 11 0 0), (21, .d (.sl (a1.map (cL cS27)))), (22, .i (a1.length : Int)), (23, .i v108), (95, .d (.sl (l377.map cS27))), (96, .d (.sl (r425.map (cI .i64))))] [(11, some (.box [.d (.sl (l377.map cS27))])), (20, some (.mp .string (encM MKey.sk vB (mput m107 v416 true))))]) (by simp; exact Sub.table (by simp) (by simp)) ?_
       refine Chain.runK [] 1 fun K hK => ?_; simp; refine hK _ _ ?_; clear hK K
       refine Chain.sub (S' := mk 107 [] [(0, .d (.sl (a0.map (cL cS27)))), (2, .i v106), (7, .mref 20), (21, .d (.sl (a1.map (cL cS27)))), (22, .i (a1.length : Int)), (23, .i v108), (96, .d (.sl (r425.map (cI .i64)))), (97, .fn (.func 26) [.ptr 11 0 0])] [(11, some (.box [.d (.sl (l377.map cS27))])), (20, some (.mp .string (encM MKey.sk vB (mput m107 v416 true))))]) Sub.tt ?_
       refine Chain.sub (Sub.freezeBox 11 [.sl (l377.map cS27)] rfl) ?_
       refine Chain.sub (S' := mk 107 [] [(0, .d (.sl (a0.map (cL cS27)))), (2, .i v106), (7, .mref 20), (21, .d (.sl (a1.map (cL cS27)))), (22, .i (a1.length : Int)), (23, .i v108), (96, .d (.sl (r425.map (cI .i64)))), (97, .fn (.func 26) [.d (.pim [.sl (l377.map cS27)])])] [(20, some (.mp .string (encM MKey.sk vB (mput m107 v416 true))))]) (by simp; exact Sub.table (by simp) (by simp)) ?_
       replace h := bsome h; obtain ⟨r426, hr426, h⟩ := h
       refine Chain.callC (d := 98) (p24 N r425 26 [.pim [.sl (l377.map cS27)]] (fun b0 b1 => d26 N b0 b1 l377) ent26 (fun b0 b1 r h => p26 N b0 b1 l377 r h) r426 hr426) (by simp) rfl rfl (by simp <;> rfl) (by simp <;> rfl) ent24 (by simp) (.inl ⟨by simp, by simp⟩) ?_
       refine Chain.sub (S' := mk 107 [] [(0, .d (.sl (a0.map (cL cS27)))), (2, .i v106), (7, .mref 20), (21, .d (.sl (a1.map (cL cS27)))), (22, .i (a1.length : Int)), (23, .i v108), (96, .d (.sl (r425.map (cI .i64)))), (97, .fn (.func 26) [.d (.pim [.sl (l377.map cS27)])]), (98, .tup [.d (.sl (r426.1.map (cI .i64))), .b r426.2])] [(20, some (.mp .string (encM MKey.sk vB (mput m107 v416 true))))]) (by simp; exact Sub.table (by simp) (by simp)) ?_
       refine Chain.runK [] 5 fun K hK => ?_; simp; refine hK _ _ ?_; clear hK K
       refine Chain.sub (S' := mk 107 [] [(0, .d (.sl (a0.map (cL cS27)))), (2, .i v106), (7, .mref 20), (19, .b r426.2), (21, .d (.sl (a1.map (cL cS27)))), (22, .i (a1.length : Int)), (23, .i v108)] [(20, some (.mp .string (encM MKey.sk vB (mput m107 v416 true))))]) Sub.tt ?_
       refine Chain.nil ?_
       refine AW.seqR ?_
       refine Chain.runK [] 1 fun K hK => ?_; simp; refine hK _ _ ?_; clear hK K
       refine Chain.sub (S' := mk 107 [] [(0, .d (.sl (a0.map (cL cS27)))), (2, .i v106), (7, .mref 20), (21, .d (.sl (a1.map (cL cS27)))), (22, .i (a1.length : Int)), (23, .i v108), (101, .b r426.2)] [(20, some (.mp .string (encM MKey.sk vB (mput m107 v416 true))))]) Sub.tt ?_
       refine Chain.nil ?_
       replace h := isome h; rcases h with ⟨c427, h⟩ | ⟨c427, h⟩
       ·have c427_ : r426.2 = true := c427
        refine AW.condT (b := r426.2) rfl c427_ ?_
        refine AW.sub (Sub.bool 101 (b := r426.2) rfl c427_) ?_
        refine AW.sub (S' := mk 107 [] [(0, .d (.sl (a0.map (cL cS27)))), (2, .i v106), (7, .mref 20), (21, .d (.sl (a1.map (cL cS27)))), (22, .i (a1.length : Int)), (23, .i v108), (101, .b true)] [(20, some (.mp .string (encM MKey.sk vB (mput m107 v416 true))))]) (by simp; exact Sub.table (by simp) (by simp)) ?_
        refine AW.region ?_
        replace h := bsome h; obtain ⟨v428, hv428, h⟩ := h
        have hv428 := chkI_some hv428
        refine Chain.runK [] 3 fun K hK => ?_; simp [hv428]; refine hK _ _ ?_; clear hK K
        refine Chain.sub (S' := mk 107 [] [(0, .d (.sl (a0.map (cL cS27)))), (2, .i v428), (7, .mref 20), (21, .d (.sl (a1.map (cL cS27)))), (22, .i (a1.length : Int)), (23, .i v108)] [(20, some (.mp .string (encM MKey.sk vB (mput m107 v416 true))))]) Sub.tt ?_
        refine Chain.nil ?_
        refine blockQ.normal ?_
        refine thenQ_normal ?_
        refine AW.region ?_
        replace h := bsome h; obtain ⟨v429, hv429, h⟩ := h
        have hv429 := chkI_some hv429
        refine Chain.runK [] 2 fun K hK => ?_; simp [hv429]; refine hK _ _ ?_; clear hK K
        refine Chain.sub (S' := mk 107 [] [(0, .d (.sl (a0.map (cL cS27)))), (2, .i v428), (7, .mref 20), (21, .d (.sl (a1.map (cL cS27)))), (22, .i (a1.length : Int)), (23, .i v429)] [(20, some (.mp .string (encM MKey.sk vB (mput m107 v416 true))))]) Sub.tt ?_
        refine Chain.nil ?_
        cases h
        refine PostI.next ?_
        exact Sub.tt
       ·have c427_ : r426.2 = false := Bool.eq_false_iff.2 c427
        refine AW.condF (b := r426.2) rfl c427_ ?_
        refine AW.sub (Sub.bool 101 (b := r426.2) rfl c427_) ?_
        refine AW.sub (S' := mk 107 [] [(0, .d (.sl (a0.map (cL cS27)))), (2, .i v106), (7, .mref 20), (21, .d (.sl (a1.map (cL cS27)))), (22, .i (a1.length : Int)), (23, .i v108), (101, .b false)] [(20, some (.mp .string (encM MKey.sk vB (mput m107 v416 true))))]) (by simp; exact Sub.table (by simp) (by simp)) ?_
        refine AW.skip ?_
        refine blockQ.normal ?_
        refine thenQ_normal ?_
        refine AW.region ?_
        replace h := bsome h; obtain ⟨v430, hv430, h⟩ := h
        have hv430 := chkI_some hv430
        refine Chain.runK [] 2 fun K hK => ?_; simp [hv430]; refine hK _ _ ?_; clear hK K
        refine Chain.sub (S' := mk 107 [] [(0, .d (.sl (a0.map (cL cS27)))), (2, .i v106), (7, .mref 20), (21, .d (.sl (a1.map (cL cS27)))), (22, .i (a1.length : Int)), (23, .i v430)] [(20, some (.mp .string (encM MKey.sk vB (mput m107 v416 true))))]) Sub.tt ?_
        refine Chain.nil ?_
        cases h
        refine PostI.next ?_
        exact Sub.tt
  ·have c325_ : decide (v108 < (a1.length : Int)) = false := decide_eq_false c325
   refine AW.condF (b := decide (v108 < (a1.length : Int))) rfl c325_ ?_
   refine AW.sub (Sub.bool 24 (b := decide (v108 < (a1.length : Int))) rfl c325_) ?_
   refine AW.sub (S' := mk 107 [] [(0, .d (.sl (a0.map (cL cS27)))), (2, .i v106), (7, .mref 20), (21, .d (.sl (a1.map (cL cS27)))), (22, .i (a1.length : Int)), (23, .i v108), (24, .b false)] [(20, some (.mp .string (encM MKey.sk vB m107)))]) (by simp; exact Sub.table (by simp) (by simp)) ?_
   refine AW.exit ?_
   cases h
   refine thenQ_pass (by simp) ?_
   refine PostI.out (by simp) ?_
   rintro rfl
   refine blockQ.hit ?_
   refine PostJ.next ?_
   exact Sub.tt
 ·rintro v324 h
  refine thenQ_normal ?_
  refine AW.seqR ?_
  refine Chain.runK [] 3 fun K hK => ?_; simp; refine hK _ _ ?_; clear hK K
  refine Chain.sub (S' := mk 107 [] [(6, .b (v324 == 0))] []) Sub.tt ?_
  refine Chain.nil ?_
  refine AW.ret ?_
  cases h
  exact FinC.ret (by simp) (by simp)

end Go.Proofs.Ytifcmomjjkbboaa
