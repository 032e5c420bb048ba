/- Functions of the program as functional programs; the code computes them. -/
import Derived.Test.YtifcmomjjkbboacMv5
namespace Go.Proofs.Ytifcmomjjkbboac
open Go.Ab Go.Rp
attribute [-simp] List.all_eq_true Array.all_toList Array.all_eq_true

/-- (*stemma/mvcc.Store).Get -/
def d15 (N : Nat) (a0 : S63) (a1 : ByteArray) (a2 : Int) : Option ((List S53) × Int) :=
 if a2 < a0.horizon then (
  some (([] : List S53), 21)
 ) else
 (d25 N a0 a1).bind fun r2 =>
 if (!r2.2) = true then (
  some (([] : List S53), 4)
 ) else
 (idx a0.chains r2.1).bind fun x4 =>
 (d28 N x4 a2).bind fun r6 =>
 if (!r6.2) = true then (
  some (([] : List S53), 4)
 ) else
 (d24 N r6.1.row).bind fun r8 =>
 some (r8, 0)
set_option maxRecDepth 100000 in
set_option maxHeartbeats 4000000 in
theorem p15 (N : Nat) (a0 : S63) (a1 : ByteArray) (a2 : Int) (r : ((List S53) × Int)) (h : d15 N a0 a1 a2 = some r) : FunF Try.prog 15 [.d (.pim [.sl (a0.chains.map cS72), .lit (.int .i64 a0.horizon)]), .d (.lit (.string a1)), .d (.lit (.int .i64 a2))] (.tup [.d (.sl (r.1.map cS53)), .d (.lit (.int .i64 r.2))]) := by
 unfold d15 at h
 refine FunF.enter 42 [(0, .d (.pim [.sl (a0.chains.map cS72), .lit (.int .i64 a0.horizon)])), (1, .d (.lit (.string a1))), (2, .i a2)] (by simp) Try.func15 rfl (of_decide_eq_true rfl) rfl rfl ?_
 refine AW.seqR ?_
 refine Chain.runK [] 2 fun K hK => ?_; simp; refine hK _ _ ?_; clear hK K
 refine Chain.sub (S' := mk 42 [] [(0, .d (.pim [.sl (a0.chains.map cS72), .lit (.int .i64 a0.horizon)])), (1, .d (.lit (.string a1))), (2, .i a2)] []) Sub.tt ?_
 refine Chain.nil ?_
 refine AW.seq ?_
 refine AW.seqR ?_
 refine Chain.runK [] 6 fun K hK => ?_; simp; refine hK _ _ ?_; clear hK K
 refine Chain.sub (S' := mk 42 [] [(0, .d (.pim [.sl (a0.chains.map cS72), .lit (.int .i64 a0.horizon)])), (1, .d (.lit (.string a1))), (2, .i a2), (16, .b (decide (a2 < a0.horizon)))] []) Sub.tt ?_
 refine Chain.nil ?_
 replace h := isome h; rcases h with ⟨c1, h⟩ | ⟨c1, h⟩
 ·have c1_ : decide (a2 < a0.horizon) = true := decide_eq_true c1
  refine AW.condT (b := decide (a2 < a0.horizon)) rfl c1_ ?_
  refine AW.sub (Sub.bool 16 (b := decide (a2 < a0.horizon)) rfl c1_) ?_
  refine AW.sub (S' := mk 42 [] [(0, .d (.pim [.sl (a0.chains.map cS72), .lit (.int .i64 a0.horizon)])), (1, .d (.lit (.string a1))), (2, .i a2), (16, .b true)] []) (by simp; exact Sub.table (by simp) (by simp)) ?_
  refine AW.seqR ?_
  refine Chain.runK [] 2 fun K hK => ?_; simp; refine hK _ _ ?_; clear hK K
  refine Chain.sub (S' := mk 42 [] [(6, .d (.lit (.slice none 0 0))), (7, .i 21)] []) Sub.tt ?_
  refine Chain.nil ?_
  refine AW.sub (Sub.nilOwn (t := 6) (id := 906) (T := 53) (n := 3) rfl rfl (by decide)) ?_
  refine AW.sub (S' := mk 42 [] [(6, .ref 906 0 (([] : List S53).length)), (7, .i 21)] [(906, R53 ([] : List S53))]) (by simp; exact Sub.table (by simp) (by simp)) ?_
  refine AW.ret ?_
  obtain rfl := Option.some.inj h
  refine thenQ_pass (by simp) ?_
  exact FinV.ret (.tup [.ref 906 0 (([] : List S53).length), .d (.lit (.int .i64 21))]) 906 (k := (.arr 53 3 (([] : List S53).map cS53))) (by simp) (by simp) (by simp) (by simp) (flatN_arr (fun a => by simp [D.flat, cS53]) _) (by simp [viewR, only1]) (by simp)
 ·have c1_ : decide (a2 < a0.horizon) = false := decide_eq_false c1
  refine AW.condF (b := decide (a2 < a0.horizon)) rfl c1_ ?_
  refine AW.sub (Sub.bool 16 (b := decide (a2 < a0.horizon)) rfl c1_) ?_
  refine AW.sub (S' := mk 42 [] [(0, .d (.pim [.sl (a0.chains.map cS72), .lit (.int .i64 a0.horizon)])), (1, .d (.lit (.string a1))), (2, .i a2), (16, .b false)] []) (by simp; exact Sub.table (by simp) (by simp)) ?_
  refine AW.skip ?_
  refine thenQ_normal ?_
  refine AW.seqR ?_
  refine Chain.runK [] 2 fun K hK => ?_; simp; refine hK _ _ ?_; clear hK K
  refine Chain.sub (S' := mk 42 [] [(0, .d (.pim [.sl (a0.chains.map cS72), .lit (.int .i64 a0.horizon)])), (2, .i a2), (18, .d (.pim [.sl (a0.chains.map cS72), .lit (.int .i64 a0.horizon)])), (19, .d (.lit (.string a1)))] []) Sub.tt ?_
  replace h := bsome h; obtain ⟨r2, hr2, h⟩ := h
  refine Chain.callL (d := 20) (p25 N a0 a1 r2 hr2) (by simp) rfl rfl (by simp <;> rfl) (by simp <;> rfl) ent25 (by simp <;> rfl) ?_
  refine Chain.sub (S' := mk 42 [] [(0, .d (.pim [.sl (a0.chains.map cS72), .lit (.int .i64 a0.horizon)])), (2, .i a2), (18, .d (.pim [.sl (a0.chains.map cS72), .lit (.int .i64 a0.horizon)])), (19, .d (.lit (.string a1))), (20, .tup [.i r2.1, .b r2.2])] []) (by simp; exact Sub.table (by simp) (by simp)) ?_
  refine Chain.runK [] 5 fun K hK => ?_; simp; refine hK _ _ ?_; clear hK K
  refine Chain.sub (S' := mk 42 [] [(0, .d (.pim [.sl (a0.chains.map cS72), .lit (.int .i64 a0.horizon)])), (2, .i a2), (8, .i r2.1), (9, .b r2.2)] []) Sub.tt ?_
  refine Chain.nil ?_
  refine AW.seq ?_
  refine AW.seqR ?_
  refine Chain.runK [] 2 fun K hK => ?_; simp; refine hK _ _ ?_; clear hK K
  refine Chain.sub (S' := mk 42 [] [(0, .d (.pim [.sl (a0.chains.map cS72), .lit (.int .i64 a0.horizon)])), (2, .i a2), (8, .i r2.1), (24, .b (!r2.2))] []) Sub.tt ?_
  refine Chain.nil ?_
  replace h := isome h; rcases h with ⟨c3, h⟩ | ⟨c3, h⟩
  ·have c3_ : (!r2.2) = true := c3
   refine AW.condT (b := (!r2.2)) rfl c3_ ?_
   refine AW.sub (Sub.bool 24 (b := (!r2.2)) rfl c3_) ?_
   refine AW.sub (S' := mk 42 [] [(0, .d (.pim [.sl (a0.chains.map cS72), .lit (.int .i64 a0.horizon)])), (2, .i a2), (8, .i r2.1), (24, .b true)] []) (by simp; exact Sub.table (by simp) (by simp)) ?_
   refine AW.seqR ?_
   refine Chain.runK [] 2 fun K hK => ?_; simp; refine hK _ _ ?_; clear hK K
   refine Chain.sub (S' := mk 42 [] [(6, .d (.lit (.slice none 0 0))), (7, .i 4)] []) Sub.tt ?_
   refine Chain.nil ?_
   refine AW.sub (Sub.nilOwn (t := 6) (id := 906) (T := 53) (n := 3) rfl rfl (by decide)) ?_
   refine AW.sub (S' := mk 42 [] [(6, .ref 906 0 (([] : List S53).length)), (7, .i 4)] [(906, R53 ([] : List S53))]) (by simp; exact Sub.table (by simp) (by simp)) ?_
   refine AW.ret ?_
   obtain rfl := Option.some.inj h
   refine thenQ_pass (by simp) ?_
   exact FinV.ret (.tup [.ref 906 0 (([] : List S53).length), .d (.lit (.int .i64 4))]) 906 (k := (.arr 53 3 (([] : List S53).map cS53))) (by simp) (by simp) (by simp) (by simp) (flatN_arr (fun a => by simp [D.flat, cS53]) _) (by simp [viewR, only1]) (by simp)
  ·have c3_ : (!r2.2) = false := Bool.eq_false_iff.2 c3
   refine AW.condF (b := (!r2.2)) rfl c3_ ?_
   refine AW.sub (Sub.bool 24 (b := (!r2.2)) rfl c3_) ?_
   refine AW.sub (S' := mk 42 [] [(0, .d (.pim [.sl (a0.chains.map cS72), .lit (.int .i64 a0.horizon)])), (2, .i a2), (8, .i r2.1), (24, .b false)] []) (by simp; exact Sub.table (by simp) (by simp)) ?_
   refine AW.skip ?_
   refine thenQ_normal ?_
   refine AW.seqR ?_
   replace h := bsome h; obtain ⟨x4, hx4, h⟩ := h
   obtain ⟨k5, hx4k, hx4, hx4a, hx4b⟩ := idx_some hx4
   refine Chain.runK [] 8 fun K hK => ?_; simp [hx4, hx4k, hx4a]; refine hK _ _ ?_; clear hK K
   refine Chain.sub (S' := mk 42 [] [(32, .agg [.d (.lit (.string x4.key)), .d (.sl (x4.versions.map cS67))]), (33, .i a2)] []) Sub.tt ?_
   replace h := bsome h; obtain ⟨r6, hr6, h⟩ := h
   refine Chain.callC (d := 34) (p28 N x4 a2 r6 hr6) (by simp) rfl rfl (by simp <;> rfl) (by simp <;> rfl) ent28 (by simp) (.inl ⟨by simp, by simp⟩) ?_
   refine Chain.sub (S' := mk 42 [] [(32, .agg [.d (.lit (.string x4.key)), .d (.sl (x4.versions.map cS67))]), (33, .i a2), (34, .tup [.agg [.i r6.1.timestamp, .b r6.1.tombstone, .d (.sl (r6.1.row.map cS53))], .b r6.2])] []) (by simp; exact Sub.table (by simp) (by simp)) ?_
   refine Chain.runK [] 6 fun K hK => ?_; simp; refine hK _ _ ?_; clear hK K
   refine Chain.sub (S' := mk 42 [] [(9, .b r6.2), (10, .ptr 10 0 0)] [(10, some (.box [.i r6.1.timestamp, .b r6.1.tombstone, .d (.sl (r6.1.row.map cS53))]))]) Sub.tt ?_
   refine Chain.nil ?_
   refine AW.seq ?_
   refine AW.seqR ?_
   refine Chain.runK [] 2 fun K hK => ?_; simp; refine hK _ _ ?_; clear hK K
   refine Chain.sub (S' := mk 42 [] [(10, .ptr 10 0 0), (38, .b (!r6.2))] [(10, some (.box [.i r6.1.timestamp, .b r6.1.tombstone, .d (.sl (r6.1.row.map cS53))]))]) Sub.tt ?_
   refine Chain.nil ?_
   replace h := isome h; rcases h with ⟨c7, h⟩ | ⟨c7, h⟩
   ·have c7_ : (!r6.2) = true := c7
    refine AW.condT (b := (!r6.2)) rfl c7_ ?_
    refine AW.sub (Sub.bool 38 (b := (!r6.2)) rfl c7_) ?_
    refine AW.sub (S' := mk 42 [] [(10, .ptr 10 0 0), (38, .b true)] [(10, some (.box [.i r6.1.timestamp, .b r6.1.tombstone, .d (.sl (r6.1.row.map cS53))]))]) (by simp; exact Sub.table (by simp) (by simp)) ?_
    refine AW.seqR ?_
    refine Chain.runK [] 2 fun K hK => ?_; simp; refine hK _ _ ?_; clear hK K
    refine Chain.sub (S' := mk 42 [] [(6, .d (.lit (.slice none 0 0))), (7, .i 4)] []) Sub.tt ?_
    refine Chain.nil ?_
    refine AW.sub (Sub.nilOwn (t := 6) (id := 906) (T := 53) (n := 3) rfl rfl (by decide)) ?_
    refine AW.sub (S' := mk 42 [] [(6, .ref 906 0 (([] : List S53).length)), (7, .i 4)] [(906, R53 ([] : List S53))]) (by simp; exact Sub.table (by simp) (by simp)) ?_
    refine AW.ret ?_
    obtain rfl := Option.some.inj h
    refine thenQ_pass (by simp) ?_
    exact FinV.ret (.tup [.ref 906 0 (([] : List S53).length), .d (.lit (.int .i64 4))]) 906 (k := (.arr 53 3 (([] : List S53).map cS53))) (by simp) (by simp) (by simp) (by simp) (flatN_arr (fun a => by simp [D.flat, cS53]) _) (by simp [viewR, only1]) (by simp)
   ·have c7_ : (!r6.2) = false := Bool.eq_false_iff.2 c7
    refine AW.condF (b := (!r6.2)) rfl c7_ ?_
    refine AW.sub (Sub.bool 38 (b := (!r6.2)) rfl c7_) ?_
    refine AW.sub (S' := mk 42 [] [(10, .ptr 10 0 0), (38, .b false)] [(10, some (.box [.i r6.1.timestamp, .b r6.1.tombstone, .d (.sl (r6.1.row.map cS53))]))]) (by simp; exact Sub.table (by simp) (by simp)) ?_
    refine AW.skip ?_
    refine thenQ_normal ?_
    refine AW.seqR ?_
    refine Chain.runK [] 2 fun K hK => ?_; simp; refine hK _ _ ?_; clear hK K
    refine Chain.sub (S' := mk 42 [] [(40, .d (.sl (r6.1.row.map cS53)))] []) Sub.tt ?_
    replace h := bsome h; obtain ⟨r8, hr8, h⟩ := h
    refine Chain.callO (d := 41) (p24 N r6.1.row r8 hr8) (by simp) rfl rfl (by simp <;> rfl) (by simp <;> rfl) ent24 (by simp) ⟨by simp, by simp⟩ ?_
    refine Chain.sub (S' := mk 42 [] [(40, .d (.sl (r6.1.row.map cS53))), (41, .ref 41 0 r8.length)] [(41, R53 r8)]) (by simp; exact Sub.table (by simp) (by simp)) ?_
    refine Chain.runK [] 2 fun K hK => ?_; simp; refine hK _ _ ?_; clear hK K
    refine Chain.sub (S' := mk 42 [] [(6, .ref 41 0 r8.length), (7, .i 0)] [(41, R53 r8)]) Sub.tt ?_
    refine Chain.nil ?_
    refine AW.ret ?_
    obtain rfl := Option.some.inj h
    exact FinV.ret (.tup [.ref 41 0 r8.length, .d (.lit (.int .i64 0))]) 41 (k := (.arr 53 3 (r8.map cS53))) (by simp) (by simp) (by simp) (by simp) (flatN_arr (fun a => by simp [D.flat, cS53]) _) (by simp [viewR, only1]) (by simp)

/-- (*stemma/stemref5.Store).Visible -/
def d16 (N : Nat) (a0 : S36) (a1 : ByteArray) (a2 : Int) : Option (S36 × (List S53) × Bool) :=
 Option.bind (α := (ByteArray × Int × Bool × (List S53))) (
  iterN (σ := (ByteArray × Int × Bool × (List S53) × Int)) (ρ := (ByteArray × Int × Bool × (List S53))) (fun ((v11, v12, v13, l14, v15) : (ByteArray × Int × Bool × (List S53) × Int)) =>
   if v15 < (a0.Versions.length : Int) then (
    (idx a0.Versions v15).bind fun x48 =>
    Option.bind (α := Bool) (
     if decide (x48.Key = a1) = true then (
      if x48.Timestamp ≤ a2 then (
       some (decide (x48.Timestamp ≥ v12))
      ) else
      some false
     ) else
     some false
    ) fun (v52 : Bool) =>
    if v52 = true then (
     (chkI (v15 + 1)).bind fun v56 =>
     some (.inl (x48.Key, x48.Timestamp, x48.Tombstone, x48.Row, v56))
    ) else
    (chkI (v15 + 1)).bind fun v57 =>
    some (.inl (v11, v12, v13, l14, v57))
   ) else
   some (.inr (v11, v12, v13, l14))
  ) N ((ByteArray.mk #[]), 0, true, ([] : List S53), 0)
 ) fun ((_v43, _v44, v45, l46) : (ByteArray × Int × Bool × (List S53))) =>
 some (a0, l46, (!v45))
set_option maxRecDepth 100000 in
set_option maxHeartbeats 4000000 in
theorem p16 (N : Nat) (a0 : S36) (a1 : ByteArray) (a2 : Int) (r : (S36 × (List S53) × Bool)) (h : d16 N a0 a1 a2 = some r) : FunM Try.prog 16 [.ptr 1000 0 0, .d (.lit (.string a1)), .i a2] [(1000, some (.box [.ref 25000 0 a0.Versions.length, .i a0.Horizon])), (25000, R43 a0.Versions)] [1000] (.tup [.d (.sl (r.2.1.map cS53)), .b r.2.2]) ([(1000, (.box [.ref 25000 0 r.1.Versions.length, .i r.1.Horizon])), (25000, (.arr 43 4 (r.1.Versions.map cS43)))]) := by
 unfold d16 at h
 refine FunM.enter 45 [(0, .ptr 1000 0 0), (1, .d (.lit (.string a1))), (2, .i a2)] Try.func16 rfl (of_decide_eq_true rfl) rfl rfl ?_
 refine AW.seqR ?_
 refine Chain.runK [] 2 fun K hK => ?_; simp; refine hK _ _ ?_; clear hK K
 refine Chain.sub (S' := mk 45 [1000] [(0, .ptr 1000 0 0), (1, .d (.lit (.string a1))), (2, .i a2)] [(1000, some (.box [.ref 25000 0 a0.Versions.length, .i a0.Horizon])), (25000, R43 a0.Versions)]) Sub.tt ?_
 refine Chain.nil ?_
 refine AW.seqR ?_
 refine Chain.runK [] 3 fun K hK => ?_; simp; refine hK _ _ ?_; clear hK K
 refine Chain.sub (S' := mk 45 [1000] [(0, .ptr 1000 0 0), (1, .d (.lit (.string a1))), (2, .i a2), (8, .ptr 8 0 0)] [(8, some (.box [.d (.lit (.string (ByteArray.mk #[]))), .i 0, .b true, .d (.lit (.slice none 0 0))])), (1000, some (.box [.ref 25000 0 a0.Versions.length, .i a0.Horizon])), (25000, R43 a0.Versions)]) Sub.tt ?_
 refine Chain.nil ?_
 refine AW.seq ?_
 refine AW.seqR ?_
 refine Chain.runK [] 6 fun K hK => ?_; simp; refine hK _ _ ?_; clear hK K
 refine Chain.sub (S' := mk 45 [1000] [(1, .d (.lit (.string a1))), (2, .i a2), (8, .ptr 8 0 0), (15, .ref 25000 0 a0.Versions.length), (16, .i (a0.Versions.length : Int)), (17, .i 0)] [(8, some (.box [.d (.lit (.string (ByteArray.mk #[]))), .i 0, .b true, .d (.lit (.slice none 0 0))])), (1000, some (.box [.ref 25000 0 a0.Versions.length, .i a0.Horizon])), (25000, R43 a0.Versions)]) Sub.tt ?_
 refine Chain.nil ?_
 refine AW.lastN (fun ((v43, v44, v45, l46) : (ByteArray × Int × Bool × (List S53))) => mk 45 [1000] [(8, .ptr 8 0 0)] [(8, some (.box [.d (.lit (.string v43)), .i v44, .b v45, .d (.sl (l46.map cS53))])), (1000, some (.box [.ref 25000 0 a0.Versions.length, .i a0.Horizon])), (25000, R43 a0.Versions)]) h ?_ ?_ <;> clear h
 ·intro o h
  refine AW.block ?_
  refine AW.iter (fun ((v11, v12, v13, l14, v15) : (ByteArray × Int × Bool × (List S53) × Int)) => mk 45 [1000] [(1, .d (.lit (.string a1))), (2, .i a2), (8, .ptr 8 0 0), (15, .ref 25000 0 a0.Versions.length), (16, .i (a0.Versions.length : Int)), (17, .i v15)] [(8, some (.box [.d (.lit (.string v11)), .i v12, .b v13, .d (.sl (l14.map cS53))])), (1000, some (.box [.ref 25000 0 a0.Versions.length, .i a0.Horizon])), (25000, R43 a0.Versions)]) h (Sub.trans (Sub.wkCell (bid := 8) (j := 3) rfl rfl) (by simp; exact Sub.table (by simp) (by simp))) ?_
  clear h
  rintro ⟨v11, v12, v13, l14, v15⟩ x h
  dsimp only at h ⊢
  refine AW.seqR ?_
  refine Chain.runK [] 1 fun K hK => ?_; simp; refine hK _ _ ?_; clear hK K
  refine Chain.sub (S' := mk 45 [1000] [(1, .d (.lit (.string a1))), (2, .i a2), (8, .ptr 8 0 0), (15, .ref 25000 0 a0.Versions.length), (16, .i (a0.Versions.length : Int)), (17, .i v15), (18, .b (decide (v15 < (a0.Versions.length : Int))))] [(8, some (.box [.d (.lit (.string v11)), .i v12, .b v13, .d (.sl (l14.map cS53))])), (1000, some (.box [.ref 25000 0 a0.Versions.length, .i a0.Horizon])), (25000, R43 a0.Versions)]) Sub.tt ?_
  refine Chain.nil ?_
  refine AW.seq ?_
  replace h := isome h; rcases h with ⟨c47, h⟩ | ⟨c47, h⟩
  ·have c47_ : decide (v15 < (a0.Versions.length : Int)) = true := decide_eq_true c47
   refine AW.condT (b := decide (v15 < (a0.Versions.length : Int))) rfl c47_ ?_
   refine AW.sub (Sub.bool 18 (b := decide (v15 < (a0.Versions.length : Int))) rfl c47_) ?_
   refine AW.sub (S' := mk 45 [1000] [(1, .d (.lit (.string a1))), (2, .i a2), (8, .ptr 8 0 0), (15, .ref 25000 0 a0.Versions.length), (16, .i (a0.Versions.length : Int)), (17, .i v15), (18, .b true)] [(8, some (.box [.d (.lit (.string v11)), .i v12, .b v13, .d (.sl (l14.map cS53))])), (1000, some (.box [.ref 25000 0 a0.Versions.length, .i a0.Horizon])), (25000, R43 a0.Versions)]) (by simp; exact Sub.table (by simp) (by simp)) ?_
   refine AW.skip ?_
   refine thenQ_normal ?_
   refine AW.seq ?_
   refine AW.block ?_
   refine AW.seqR ?_
   replace h := bsome h; obtain ⟨x48, hx48, h⟩ := h
   obtain ⟨k49, hx48k, hx48, hx48a, hx48b⟩ := idx_some hx48
   refine Chain.runK [] 4 fun K hK => ?_; simp [hx48, hx48k, hx48a, hx48b]; refine hK _ _ ?_; clear hK K
   refine Chain.sub (S' := mk 45 [1000] [(1, .d (.lit (.string a1))), (2, .i a2), (8, .ptr 8 0 0), (10, .ptr 10 0 0), (15, .ref 25000 0 a0.Versions.length), (16, .i (a0.Versions.length : Int)), (17, .i v15)] [(8, some (.box [.d (.lit (.string v11)), .i v12, .b v13, .d (.sl (l14.map cS53))])), (10, some (.box [.d (.lit (.string x48.Key)), .i x48.Timestamp, .b x48.Tombstone, .d (.sl (x48.Row.map cS53))])), (1000, some (.box [.ref 25000 0 a0.Versions.length, .i a0.Horizon])), (25000, R43 a0.Versions)]) Sub.tt ?_
   refine Chain.nil ?_
   replace h := bsome h; obtain ⟨v52, hj, h⟩ := h
   refine AW.cutR (mk 45 [1000] [(1, .d (.lit (.string a1))), (2, .i a2), (8, .ptr 8 0 0), (10, .ptr 10 0 0), (15, .ref 25000 0 a0.Versions.length), (16, .i (a0.Versions.length : Int)), (17, .i v15), (37, .b v52)] [(8, some (.box [.d (.lit (.string v11)), .i v12, .b v13, .d (.sl (l14.map cS53))])), (10, some (.box [.d (.lit (.string x48.Key)), .i x48.Timestamp, .b x48.Tombstone, .d (.sl (x48.Row.map cS53))])), (1000, some (.box [.ref 25000 0 a0.Versions.length, .i a0.Horizon])), (25000, R43 a0.Versions)]) ?_ ?_
   ·clear h; have h := hj; clear hj
    refine Chain.runK [] 5 fun K hK => ?_; simp; refine hK _ _ ?_; clear hK K
    refine Chain.sub (S' := mk 45 [1000] [(1, .d (.lit (.string a1))), (2, .i a2), (8, .ptr 8 0 0), (10, .ptr 10 0 0), (15, .ref 25000 0 a0.Versions.length), (16, .i (a0.Versions.length : Int)), (17, .i v15), (25, .b (decide (x48.Key = a1)))] [(8, some (.box [.d (.lit (.string v11)), .i v12, .b v13, .d (.sl (l14.map cS53))])), (10, some (.box [.d (.lit (.string x48.Key)), .i x48.Timestamp, .b x48.Tombstone, .d (.sl (x48.Row.map cS53))])), (1000, some (.box [.ref 25000 0 a0.Versions.length, .i a0.Horizon])), (25000, R43 a0.Versions)]) Sub.tt ?_
    replace h := isome h; rcases h with ⟨c53, h⟩ | ⟨c53, h⟩
    ·have c53_ : decide (x48.Key = a1) = true := c53
     refine Chain.sub (Sub.bool 25 (b := decide (x48.Key = a1)) rfl c53_) ?_
     refine Chain.sub (S' := mk 45 [1000] [(1, .d (.lit (.string a1))), (2, .i a2), (8, .ptr 8 0 0), (10, .ptr 10 0 0), (15, .ref 25000 0 a0.Versions.length), (16, .i (a0.Versions.length : Int)), (17, .i v15), (25, .b true)] [(8, some (.box [.d (.lit (.string v11)), .i v12, .b v13, .d (.sl (l14.map cS53))])), (10, some (.box [.d (.lit (.string x48.Key)), .i x48.Timestamp, .b x48.Tombstone, .d (.sl (x48.Row.map cS53))])), (1000, some (.box [.ref 25000 0 a0.Versions.length, .i a0.Horizon])), (25000, R43 a0.Versions)]) (by simp; exact Sub.table (by simp) (by simp)) ?_
     refine Chain.runK [] 6 fun K hK => ?_; simp; refine hK _ _ ?_; clear hK K
     refine Chain.sub (S' := mk 45 [1000] [(1, .d (.lit (.string a1))), (2, .i a2), (8, .ptr 8 0 0), (10, .ptr 10 0 0), (15, .ref 25000 0 a0.Versions.length), (16, .i (a0.Versions.length : Int)), (17, .i v15), (26, .ptr 10 0 1), (27, .i x48.Timestamp), (28, .i a2), (29, .b (decide (x48.Timestamp ≤ a2))), (31, .b (decide (x48.Timestamp ≤ a2)))] [(8, some (.box [.d (.lit (.string v11)), .i v12, .b v13, .d (.sl (l14.map cS53))])), (10, some (.box [.d (.lit (.string x48.Key)), .i x48.Timestamp, .b x48.Tombstone, .d (.sl (x48.Row.map cS53))])), (1000, some (.box [.ref 25000 0 a0.Versions.length, .i a0.Horizon])), (25000, R43 a0.Versions)]) Sub.tt ?_
     replace h := isome h; rcases h with ⟨c54, h⟩ | ⟨c54, h⟩
     ·have c54_ : decide (x48.Timestamp ≤ a2) = true := decide_eq_true c54
      refine Chain.sub (Sub.bool 29 (b := decide (x48.Timestamp ≤ a2)) rfl c54_) ?_
      refine Chain.sub (Sub.bool 31 (b := decide (x48.Timestamp ≤ a2)) rfl c54_) ?_
      refine Chain.sub (S' := mk 45 [1000] [(1, .d (.lit (.string a1))), (2, .i a2), (8, .ptr 8 0 0), (10, .ptr 10 0 0), (15, .ref 25000 0 a0.Versions.length), (16, .i (a0.Versions.length : Int)), (17, .i v15), (26, .ptr 10 0 1), (27, .i x48.Timestamp), (28, .i a2), (29, .b true), (31, .b true)] [(8, some (.box [.d (.lit (.string v11)), .i v12, .b v13, .d (.sl (l14.map cS53))])), (10, some (.box [.d (.lit (.string x48.Key)), .i x48.Timestamp, .b x48.Tombstone, .d (.sl (x48.Row.map cS53))])), (1000, some (.box [.ref 25000 0 a0.Versions.length, .i a0.Horizon])), (25000, R43 a0.Versions)]) (by simp; exact Sub.table (by simp) (by simp)) ?_
      refine Chain.runK [] 6 fun K hK => ?_; simp; refine hK _ _ ?_; clear hK K
      refine Chain.sub (S' := mk 45 [1000] [(1, .d (.lit (.string a1))), (2, .i a2), (8, .ptr 8 0 0), (10, .ptr 10 0 0), (15, .ref 25000 0 a0.Versions.length), (16, .i (a0.Versions.length : Int)), (17, .i v15), (26, .ptr 10 0 1), (27, .i x48.Timestamp), (28, .i a2), (29, .b true), (32, .ptr 10 0 1), (33, .i x48.Timestamp), (34, .ptr 8 0 1), (35, .i v12), (36, .b (decide (x48.Timestamp ≥ v12))), (37, .b (decide (x48.Timestamp ≥ v12)))] [(8, some (.box [.d (.lit (.string v11)), .i v12, .b v13, .d (.sl (l14.map cS53))])), (10, some (.box [.d (.lit (.string x48.Key)), .i x48.Timestamp, .b x48.Tombstone, .d (.sl (x48.Row.map cS53))])), (1000, some (.box [.ref 25000 0 a0.Versions.length, .i a0.Horizon])), (25000, R43 a0.Versions)]) Sub.tt ?_
      cases h
      exact Chain.nil Sub.tt
     ·have c54_ : decide (x48.Timestamp ≤ a2) = false := decide_eq_false c54
      refine Chain.sub (Sub.bool 29 (b := decide (x48.Timestamp ≤ a2)) rfl c54_) ?_
      refine Chain.sub (Sub.bool 31 (b := decide (x48.Timestamp ≤ a2)) rfl c54_) ?_
      refine Chain.sub (S' := mk 45 [1000] [(1, .d (.lit (.string a1))), (2, .i a2), (8, .ptr 8 0 0), (10, .ptr 10 0 0), (15, .ref 25000 0 a0.Versions.length), (16, .i (a0.Versions.length : Int)), (17, .i v15), (26, .ptr 10 0 1), (27, .i x48.Timestamp), (28, .i a2), (29, .b false), (31, .b false)] [(8, some (.box [.d (.lit (.string v11)), .i v12, .b v13, .d (.sl (l14.map cS53))])), (10, some (.box [.d (.lit (.string x48.Key)), .i x48.Timestamp, .b x48.Tombstone, .d (.sl (x48.Row.map cS53))])), (1000, some (.box [.ref 25000 0 a0.Versions.length, .i a0.Horizon])), (25000, R43 a0.Versions)]) (by simp; exact Sub.table (by simp) (by simp)) ?_
      refine Chain.runK [] 6 fun K hK => ?_; simp; refine hK _ _ ?_; clear hK K
      refine Chain.sub (S' := mk 45 [1000] [(1, .d (.lit (.string a1))), (2, .i a2), (8, .ptr 8 0 0), (10, .ptr 10 0 0), (15, .ref 25000 0 a0.Versions.length), (16, .i (a0.Versions.length : Int)), (17, .i v15), (26, .ptr 10 0 1), (27, .i x48.Timestamp), (28, .i a2), (29, .b false), (32, .tup []), (33, .tup []), (34, .tup []), (35, .tup []), (36, .tup []), (37, .b false)] [(8, some (.box [.d (.lit (.string v11)), .i v12, .b v13, .d (.sl (l14.map cS53))])), (10, some (.box [.d (.lit (.string x48.Key)), .i x48.Timestamp, .b x48.Tombstone, .d (.sl (x48.Row.map cS53))])), (1000, some (.box [.ref 25000 0 a0.Versions.length, .i a0.Horizon])), (25000, R43 a0.Versions)]) Sub.tt ?_
      cases h
      exact Chain.nil Sub.tt
    ·have c53_ : decide (x48.Key = a1) = false := Bool.eq_false_iff.2 c53
     refine Chain.sub (Sub.bool 25 (b := decide (x48.Key = a1)) rfl c53_) ?_
     refine Chain.sub (S' := mk 45 [1000] [(1, .d (.lit (.string a1))), (2, .i a2), (8, .ptr 8 0 0), (10, .ptr 10 0 0), (15, .ref 25000 0 a0.Versions.length), (16, .i (a0.Versions.length : Int)), (17, .i v15), (25, .b false)] [(8, some (.box [.d (.lit (.string v11)), .i v12, .b v13, .d (.sl (l14.map cS53))])), (10, some (.box [.d (.lit (.string x48.Key)), .i x48.Timestamp, .b x48.Tombstone, .d (.sl (x48.Row.map cS53))])), (1000, some (.box [.ref 25000 0 a0.Versions.length, .i a0.Horizon])), (25000, R43 a0.Versions)]) (by simp; exact Sub.table (by simp) (by simp)) ?_
     refine Chain.runK [] 12 fun K hK => ?_; simp; refine hK _ _ ?_; clear hK K
     refine Chain.sub (S' := mk 45 [1000] [(1, .d (.lit (.string a1))), (2, .i a2), (8, .ptr 8 0 0), (10, .ptr 10 0 0), (15, .ref 25000 0 a0.Versions.length), (16, .i (a0.Versions.length : Int)), (17, .i v15), (26, .tup []), (27, .tup []), (28, .tup []), (29, .tup []), (32, .tup []), (33, .tup []), (34, .tup []), (35, .tup []), (36, .tup []), (37, .b false)] [(8, some (.box [.d (.lit (.string v11)), .i v12, .b v13, .d (.sl (l14.map cS53))])), (10, some (.box [.d (.lit (.string x48.Key)), .i x48.Timestamp, .b x48.Tombstone, .d (.sl (x48.Row.map cS53))])), (1000, some (.box [.ref 25000 0 a0.Versions.length, .i a0.Horizon])), (25000, R43 a0.Versions)]) Sub.tt ?_
     cases h
     exact Chain.nil Sub.tt
   ·clear hj
    replace h := isome h; rcases h with ⟨c55, h⟩ | ⟨c55, h⟩
    ·have c55_ : v52 = true := c55
     refine AW.condT (b := v52) rfl c55_ ?_
     refine AW.sub (Sub.bool 37 (b := v52) rfl c55_) ?_
     refine AW.sub (S' := mk 45 [1000] [(1, .d (.lit (.string a1))), (2, .i a2), (8, .ptr 8 0 0), (10, .ptr 10 0 0), (15, .ref 25000 0 a0.Versions.length), (16, .i (a0.Versions.length : Int)), (17, .i v15), (37, .b true)] [(8, some (.box [.d (.lit (.string v11)), .i v12, .b v13, .d (.sl (l14.map cS53))])), (10, some (.box [.d (.lit (.string x48.Key)), .i x48.Timestamp, .b x48.Tombstone, .d (.sl (x48.Row.map cS53))])), (1000, some (.box [.ref 25000 0 a0.Versions.length, .i a0.Horizon])), (25000, R43 a0.Versions)]) (by simp; exact Sub.table (by simp) (by simp)) ?_
     refine AW.region ?_
     refine Chain.runK [] 2 fun K hK => ?_; simp; refine hK _ _ ?_; clear hK K
     refine Chain.sub (S' := mk 45 [1000] [(1, .d (.lit (.string a1))), (2, .i a2), (8, .ptr 8 0 0), (15, .ref 25000 0 a0.Versions.length), (16, .i (a0.Versions.length : Int)), (17, .i v15)] [(8, some (.box [.d (.lit (.string x48.Key)), .i x48.Timestamp, .b x48.Tombstone, .d (.sl (x48.Row.map cS53))])), (1000, some (.box [.ref 25000 0 a0.Versions.length, .i a0.Horizon])), (25000, R43 a0.Versions)]) Sub.tt ?_
     refine Chain.nil ?_
     refine blockQ.normal ?_
     refine thenQ_normal ?_
     refine AW.region ?_
     replace h := bsome h; obtain ⟨v56, hv56, h⟩ := h
     have hv56 := chkI_some hv56
     refine Chain.runK [] 2 fun K hK => ?_; simp [hv56]; refine hK _ _ ?_; clear hK K
     refine Chain.sub (S' := mk 45 [1000] [(1, .d (.lit (.string a1))), (2, .i a2), (8, .ptr 8 0 0), (15, .ref 25000 0 a0.Versions.length), (16, .i (a0.Versions.length : Int)), (17, .i v56)] [(8, some (.box [.d (.lit (.string x48.Key)), .i x48.Timestamp, .b x48.Tombstone, .d (.sl (x48.Row.map cS53))])), (1000, some (.box [.ref 25000 0 a0.Versions.length, .i a0.Horizon])), (25000, R43 a0.Versions)]) Sub.tt ?_
     refine Chain.nil ?_
     cases h
     refine PostI.next ?_
     exact Sub.tt
    ·have c55_ : v52 = false := Bool.eq_false_iff.2 c55
     refine AW.condF (b := v52) rfl c55_ ?_
     refine AW.sub (Sub.bool 37 (b := v52) rfl c55_) ?_
     refine AW.sub (S' := mk 45 [1000] [(1, .d (.lit (.string a1))), (2, .i a2), (8, .ptr 8 0 0), (10, .ptr 10 0 0), (15, .ref 25000 0 a0.Versions.length), (16, .i (a0.Versions.length : Int)), (17, .i v15), (37, .b false)] [(8, some (.box [.d (.lit (.string v11)), .i v12, .b v13, .d (.sl (l14.map cS53))])), (10, some (.box [.d (.lit (.string x48.Key)), .i x48.Timestamp, .b x48.Tombstone, .d (.sl (x48.Row.map cS53))])), (1000, some (.box [.ref 25000 0 a0.Versions.length, .i a0.Horizon])), (25000, R43 a0.Versions)]) (by simp; exact Sub.table (by simp) (by simp)) ?_
     refine AW.skip ?_
     refine blockQ.normal ?_
     refine thenQ_normal ?_
     refine AW.region ?_
     replace h := bsome h; obtain ⟨v57, hv57, h⟩ := h
     have hv57 := chkI_some hv57
     refine Chain.runK [] 2 fun K hK => ?_; simp [hv57]; refine hK _ _ ?_; clear hK K
     refine Chain.sub (S' := mk 45 [1000] [(1, .d (.lit (.string a1))), (2, .i a2), (8, .ptr 8 0 0), (15, .ref 25000 0 a0.Versions.length), (16, .i (a0.Versions.length : Int)), (17, .i v57)] [(8, some (.box [.d (.lit (.string v11)), .i v12, .b v13, .d (.sl (l14.map cS53))])), (1000, some (.box [.ref 25000 0 a0.Versions.length, .i a0.Horizon])), (25000, R43 a0.Versions)]) Sub.tt ?_
     refine Chain.nil ?_
     cases h
     refine PostI.next ?_
     exact Sub.tt
  ·have c47_ : decide (v15 < (a0.Versions.length : Int)) = false := decide_eq_false c47
   refine AW.condF (b := decide (v15 < (a0.Versions.length : Int))) rfl c47_ ?_
   refine AW.sub (Sub.bool 18 (b := decide (v15 < (a0.Versions.length : Int))) rfl c47_) ?_
   refine AW.sub (S' := mk 45 [1000] [(1, .d (.lit (.string a1))), (2, .i a2), (8, .ptr 8 0 0), (15, .ref 25000 0 a0.Versions.length), (16, .i (a0.Versions.length : Int)), (17, .i v15), (18, .b false)] [(8, some (.box [.d (.lit (.string v11)), .i v12, .b v13, .d (.sl (l14.map cS53))])), (1000, some (.box [.ref 25000 0 a0.Versions.length, .i a0.Horizon])), (25000, R43 a0.Versions)]) (by simp; exact Sub.table (by simp) (by simp)) ?_
   refine AW.exit ?_
   cases h
   refine thenQ_pass (by simp) ?_
   refine PostI.out (by simp) ?_
   rintro rfl
   refine blockQ.hit ?_
   refine PostN.next ?_
   exact Sub.tt
 ·rintro ⟨v43, v44, v45, l46⟩ h
  dsimp only at h ⊢
  refine thenQ_normal ?_
  refine AW.seqQ (by kernel_rfl) (by kernel_rfl) ?_
  refine Chain.runQ 7 fun K hK => ?_; simp; refine hK _ _ ?_; clear hK K
  refine Chain.sub (S' := mk 45 [1000] [(6, .d (.sl (l46.map cS53))), (7, .b (!v45))] [(1000, some (.box [.ref 25000 0 a0.Versions.length, .i a0.Horizon])), (25000, R43 a0.Versions)]) Sub.tt ?_
  refine Chain.nil ?_
  refine AW.ret ?_
  cases h
  exact FinF.ret (by simp) (by simp)

/-- slices.Equal[stemma/api.Row,stemma/api.Value] -/
def d17 (N : Nat) (a0 : (List S53)) (a1 : (List S53)) : Option Bool :=
 if ((a0.length : Int) != (a1.length : Int)) then (
  some false
 ) else
 bindO (β := Unit) (ρ := Bool) (
  iterN (σ := Int) (ρ := (Out Unit Bool)) (fun (v7 : Int) =>
   if v7 < (a0.length : Int) then (
    (idx a0 v7).bind fun x22 =>
    (idx a1 v7).bind fun x24 =>
    if (!beqS53 x22 x24) = true then (
     some (.inr (.ret false))
    ) else
    (chkI (v7 + 1)).bind fun v26 =>
    some (.inl v26)
   ) else
   some (.inr (.go ()))
  ) N 0
 ) fun (_ : Unit) =>
 some true
set_option maxRecDepth 100000 in
set_option maxHeartbeats 4000000 in
theorem p17 (N : Nat) (a0 : (List S53)) (a1 : (List S53)) (r : Bool) (h : d17 N a0 a1 = some r) : FunC Try.prog 17 [.d (.sl (a0.map cS53)), .d (.sl (a1.map cS53))] (.b r) := by
 unfold d17 at h
 refine FunC.enter 26 [(0, .d (.sl (a0.map cS53))), (1, .d (.sl (a1.map cS53)))] (by simp) Try.func17 rfl (of_decide_eq_true rfl) rfl rfl ?_
 refine AW.seqR ?_
 refine Chain.runK [] 1 fun K hK => ?_; simp; refine hK _ _ ?_; clear hK K
 refine Chain.sub (S' := mk 26 [] [(0, .d (.sl (a0.map cS53))), (1, .d (.sl (a1.map cS53)))] []) Sub.tt ?_
 refine Chain.nil ?_
 refine AW.seq ?_
 refine AW.seqR ?_
 refine Chain.runK [] 5 fun K hK => ?_; simp; refine hK _ _ ?_; clear hK K
 refine Chain.sub (S' := mk 26 [] [(0, .d (.sl (a0.map cS53))), (1, .d (.sl (a1.map cS53))), (10, .b ((a0.length : Int) != (a1.length : Int)))] []) Sub.tt ?_
 refine Chain.nil ?_
 replace h := isome h; rcases h with ⟨c1, h⟩ | ⟨c1, h⟩
 ·have c1_ : ((a0.length : Int) != (a1.length : Int)) = true := c1
  refine AW.condT (b := ((a0.length : Int) != (a1.length : Int))) rfl c1_ ?_
  refine AW.sub (Sub.bool 10 (b := ((a0.length : Int) != (a1.length : Int))) rfl c1_) ?_
  refine AW.sub (S' := mk 26 [] [(0, .d (.sl (a0.map cS53))), (1, .d (.sl (a1.map cS53))), (10, .b true)] []) (by simp; exact Sub.table (by simp) (by simp)) ?_
  refine AW.seqR ?_
  refine Chain.runK [] 1 fun K hK => ?_; simp; refine hK _ _ ?_; clear hK K
  refine Chain.sub (S' := mk 26 [] [(4, .b false)] []) Sub.tt ?_
  refine Chain.nil ?_
  refine AW.ret ?_
  cases h
  refine thenQ_pass (by simp) ?_
  exact FinC.ret (by simp) (by simp)
 ·have c1_ : ((a0.length : Int) != (a1.length : Int)) = false := Bool.eq_false_iff.2 c1
  refine AW.condF (b := ((a0.length : Int) != (a1.length : Int))) rfl c1_ ?_
  refine AW.sub (Sub.bool 10 (b := ((a0.length : Int) != (a1.length : Int))) rfl c1_) ?_
  refine AW.sub (S' := mk 26 [] [(0, .d (.sl (a0.map cS53))), (1, .d (.sl (a1.map cS53))), (10, .b false)] []) (by simp; exact Sub.table (by simp) (by simp)) ?_
  refine AW.skip ?_
  refine thenQ_normal ?_
  refine AW.seq ?_
  refine AW.seqR ?_
  refine Chain.runK [] 3 fun K hK => ?_; simp; refine hK _ _ ?_; clear hK K
  refine Chain.sub (S' := mk 26 [] [(0, .d (.sl (a0.map cS53))), (1, .d (.sl (a1.map cS53))), (12, .i (a0.length : Int)), (13, .i 0)] []) Sub.tt ?_
  refine Chain.nil ?_
  refine AW.lastJ (fun (_ : Unit) => mk 26 [] [] []) h ?_ ?_ <;> clear h
  ·intro o h
   refine AW.block ?_
   refine AW.iter (fun (v7 : Int) => mk 26 [] [(0, .d (.sl (a0.map cS53))), (1, .d (.sl (a1.map cS53))), (12, .i (a0.length : Int)), (13, .i v7)] []) h Sub.tt ?_
   clear h
   rintro v7 x h
   refine AW.seqR ?_
   refine Chain.runK [] 1 fun K hK => ?_; simp; refine hK _ _ ?_; clear hK K
   refine Chain.sub (S' := mk 26 [] [(0, .d (.sl (a0.map cS53))), (1, .d (.sl (a1.map cS53))), (12, .i (a0.length : Int)), (13, .i v7), (14, .b (decide (v7 < (a0.length : Int))))] []) Sub.tt ?_
   refine Chain.nil ?_
   refine AW.seq ?_
   replace h := isome h; rcases h with ⟨c21, h⟩ | ⟨c21, h⟩
   ·have c21_ : decide (v7 < (a0.length : Int)) = true := decide_eq_true c21
    refine AW.condT (b := decide (v7 < (a0.length : Int))) rfl c21_ ?_
    refine AW.sub (Sub.bool 14 (b := decide (v7 < (a0.length : Int))) rfl c21_) ?_
    refine AW.sub (S' := mk 26 [] [(0, .d (.sl (a0.map cS53))), (1, .d (.sl (a1.map cS53))), (12, .i (a0.length : Int)), (13, .i v7), (14, .b true)] []) (by simp; exact Sub.table (by simp) (by simp)) ?_
    refine AW.skip ?_
    refine thenQ_normal ?_
    refine AW.seq ?_
    refine AW.block ?_
    refine AW.seqR ?_
    refine Chain.runK [] 2 fun K hK => ?_; simp; refine hK _ _ ?_; clear hK K
    refine Chain.sub (S' := mk 26 [] [(0, .d (.sl (a0.map cS53))), (1, .d (.sl (a1.map cS53))), (5, .i v7), (12, .i (a0.length : Int)), (13, .i v7)] []) Sub.tt ?_
    refine Chain.nil ?_
    refine AW.seqQ (by kernel_rfl) (by kernel_rfl) ?_
    replace h := bsome h; obtain ⟨x22, hx22, h⟩ := h
    obtain ⟨k23, hx22k, hx22, hx22a, hx22b⟩ := idx_some hx22
    replace h := bsome h; obtain ⟨x24, hx24, h⟩ := h
    obtain ⟨hx24, hx24a, hx24b⟩ := idx_some2 hx24 hx22k
    refine Chain.runQ 8 fun K hK => ?_; simp [hx22, hx22a, hx24, hx22k]; refine hK _ _ ?_; clear hK K
    refine Chain.sub (S' := mk 26 [] [(0, .d (.sl (a0.map cS53))), (1, .d (.sl (a1.map cS53))), (12, .i (a0.length : Int)), (13, .i v7), (19, .agg [.i x22.Kind, .i x22.Int, .d (.lit (.string x22.Text))]), (23, .agg [.i x24.Kind, .i x24.Int, .d (.lit (.string x24.Text))])] []) Sub.tt ?_
    refine Chain.pureP (by simp) (pure_eqA true rfl rfl rfl rfl (by kernel_rfl) (eqv53 x22 x24)) ?_
    refine Chain.sub (S' := mk 26 [] [(0, .d (.sl (a0.map cS53))), (1, .d (.sl (a1.map cS53))), (12, .i (a0.length : Int)), (13, .i v7), (19, .agg [.i x22.Kind, .i x22.Int, .d (.lit (.string x22.Text))]), (23, .agg [.i x24.Kind, .i x24.Int, .d (.lit (.string x24.Text))]), (24, .b (!beqS53 x22 x24))] []) (by simp; exact Sub.table (by simp) (by simp)) ?_
    refine Chain.nil ?_
    replace h := isome h; rcases h with ⟨c25, h⟩ | ⟨c25, h⟩
    ·have c25_ : (!beqS53 x22 x24) = true := c25
     refine AW.condT (b := (!beqS53 x22 x24)) rfl c25_ ?_
     refine AW.sub (Sub.bool 24 (b := (!beqS53 x22 x24)) rfl c25_) ?_
     refine AW.sub (S' := mk 26 [] [(0, .d (.sl (a0.map cS53))), (1, .d (.sl (a1.map cS53))), (12, .i (a0.length : Int)), (13, .i v7), (24, .b true)] []) (by simp; exact Sub.table (by simp) (by simp)) ?_
     refine AW.seqR ?_
     refine Chain.runK [] 1 fun K hK => ?_; simp; refine hK _ _ ?_; clear hK K
     refine Chain.sub (S' := mk 26 [] [(4, .b false)] []) Sub.tt ?_
     refine Chain.nil ?_
     refine AW.ret ?_
     cases h
     refine blockQ.ret ?_
     refine thenQ_pass (by simp) ?_
     refine PostI.out (by simp) ?_
     rintro rfl
     refine blockQ.ret ?_
     refine PostJ.out (by simp) ?_
     rintro rfl
     refine thenQ_pass (by simp) ?_
     exact FinC.ret (by simp) (by simp)
    ·have c25_ : (!beqS53 x22 x24) = false := Bool.eq_false_iff.2 c25
     refine AW.condF (b := (!beqS53 x22 x24)) rfl c25_ ?_
     refine AW.sub (Sub.bool 24 (b := (!beqS53 x22 x24)) rfl c25_) ?_
     refine AW.sub (S' := mk 26 [] [(0, .d (.sl (a0.map cS53))), (1, .d (.sl (a1.map cS53))), (12, .i (a0.length : Int)), (13, .i v7), (24, .b false)] []) (by simp; exact Sub.table (by simp) (by simp)) ?_
     refine AW.skip ?_
     refine blockQ.normal ?_
     refine thenQ_normal ?_
     refine AW.region ?_
     replace h := bsome h; obtain ⟨v26, hv26, h⟩ := h
     have hv26 := chkI_some hv26
     refine Chain.runK [] 2 fun K hK => ?_; simp [hv26]; refine hK _ _ ?_; clear hK K
     refine Chain.sub (S' := mk 26 [] [(0, .d (.sl (a0.map cS53))), (1, .d (.sl (a1.map cS53))), (12, .i (a0.length : Int)), (13, .i v26)] []) Sub.tt ?_
     refine Chain.nil ?_
     cases h
     refine PostI.next ?_
     exact Sub.tt
   ·have c21_ : decide (v7 < (a0.length : Int)) = false := decide_eq_false c21
    refine AW.condF (b := decide (v7 < (a0.length : Int))) rfl c21_ ?_
    refine AW.sub (Sub.bool 14 (b := decide (v7 < (a0.length : Int))) rfl c21_) ?_
    refine AW.sub (S' := mk 26 [] [(0, .d (.sl (a0.map cS53))), (1, .d (.sl (a1.map cS53))), (12, .i (a0.length : Int)), (13, .i v7), (14, .b false)] []) (by simp; exact Sub.table (by simp) (by simp)) ?_
    refine AW.exit ?_
    cases h
    refine thenQ_pass (by simp) ?_
    refine PostI.out (by simp) ?_
    rintro rfl
    refine blockQ.hit ?_
    refine PostJ.next ?_
    exact Sub.tt
  ·rintro ⟨⟩ h
   refine thenQ_normal ?_
   refine AW.seqR ?_
   refine Chain.runK [] 1 fun K hK => ?_; simp; refine hK _ _ ?_; clear hK K
   refine Chain.sub (S' := mk 26 [] [(4, .b true)] []) Sub.tt ?_
   refine Chain.nil ?_
   refine AW.ret ?_
   cases h
   exact FinC.ret (by simp) (by simp)

end Go.Proofs.Ytifcmomjjkbboac
