/- Functions of the program as functional programs; the code computes them. -/
import Derived.Test.YtiikoldaocnilaaRc7
namespace Go.Proofs.Ytiikoldaocnilaa
open Go.Ab Go.Rp
attribute [-simp] List.all_eq_true Array.all_toList Array.all_eq_true

/-- (*stemma/recovery.Engine).Crash -/
def d36 (N : Nat) (a0 : S74) : Option (S74 × Int × Int) :=
 (natI a0.flushed a0.log.length).bind fun n1 =>
 (d44 N (a0.log.take n1)).bind fun r2 =>
 (d45 N a0.disk).bind fun r3 =>
 (mkL 8 (r3.length : Int) (0 : Int)).bind fun l4 =>
 Option.bind (α := ((List S78) × Int × (List (Int × Bool)))) (
  iterN (σ := ((List S78) × Int × (List (Int × Bool)) × Int)) (ρ := ((List S78) × Int × (List (Int × Bool)))) (fun ((l28, v29, m30, v31) : ((List S78) × Int × (List (Int × Bool)) × Int)) =>
   if v31 < (r2.length : Int) then (
    Option.bind (α := ((List S78) × Int × (List (Int × Bool)))) (
     (idx r2 v31).bind fun x103 =>
     if (x103.kind == 3) then (
      some (l28, v29, (mput m30 x103.tx true))
     ) else
     (chkI (v31 + 1)).bind fun v106 =>
     (idx l28 x103.page).bind fun x107 =>
     if v106 > x107.lsn then (
      (chkI (v31 + 1)).bind fun v110 =>
      letv (setI l28 x103.page (S78.mk x103.after v110)) fun l111 =>
      (chkI (v29 + 1)).bind fun v112 =>
      some (l111, v112, m30)
     ) else
     some (l28, v29, m30)
    ) fun ((l100, v101, m102) : ((List S78) × Int × (List (Int × Bool)))) =>
    (chkI (v31 + 1)).bind fun v113 =>
    some (.inl (l100, v101, m102, v113))
   ) else
   some (.inr (l28, v29, m30))
  ) N (r3, 0, ([] : List (Int × Bool)), 0)
 ) fun ((l86, v87, m88) : ((List S78) × Int × (List (Int × Bool)))) =>
 (d44 N r2).bind fun r114 =>
 Option.bind (α := ((List S78) × (List S78) × (List S80) × Int × Int × (List Int) × (List Int))) (
  iterN (σ := ((List S78) × (List S78) × (List S80) × Int × Int × (List Int) × (List Int) × (List (Int × Bool)) × Int)) (ρ := ((List S78) × (List S78) × (List S80) × Int × Int × (List Int) × (List Int))) (fun ((l123, l124, l125, v126, v127, l128, l129, m130, v131) : ((List S78) × (List S78) × (List S80) × Int × Int × (List Int) × (List Int) × (List (Int × Bool)) × Int)) =>
   if v131 < (r114.length : Int) then (
    (idx r114 v131).bind fun x167 =>
    letv ((mget m130 x167.tx).getD false) fun v169 =>
    if (!v169) = true then (
     (d41 N (S74.mk l123 l124 l125 v126 v127 l128 l129) x167.tx).bind fun r171 =>
     (d25 N r171 (S80.mk 3 x167.tx 0 0 0)).bind fun r172 =>
     (chkI (v131 + 1)).bind fun v173 =>
     some (.inl (r172.buffer, r172.disk, r172.log, r172.flushed, r172.lastID, r172.active, r172.writer, (mput m130 x167.tx true), v173))
    ) else
    (chkI (v131 + 1)).bind fun v174 =>
    some (.inl (l123, l124, l125, v126, v127, l128, l129, m130, v174))
   ) else
   some (.inr (l123, l124, l125, v126, v127, l128, l129))
  ) N (l86, a0.disk, r2, a0.flushed, a0.lastID, ([] : List Int), l4, m88, 0)
 ) fun ((l159, l160, l161, _v162, v163, l164, l165) : ((List S78) × (List S78) × (List S80) × Int × Int × (List Int) × (List Int))) =>
 (natI (r2.length : Int) l161.length).bind fun n175 =>
 Option.bind (α := Int) (
  iterN (σ := (Int × Int)) (ρ := Int) (fun ((v182, v183) : (Int × Int)) =>
   if v183 < (((l161.length - n175) : Nat) : Int) then (
    (idx (l161.drop n175) v183).bind fun x202 =>
    if (x202.kind == 2) then (
     (chkI (v182 + 1)).bind fun v205 =>
     (chkI (v183 + 1)).bind fun v206 =>
     some (.inl (v205, v206))
    ) else
    (chkI (v183 + 1)).bind fun v207 =>
    some (.inl (v182, v207))
   ) else
   some (.inr v182)
  ) N (0, 0)
 ) fun (v200 : Int) =>
 some ((S74.mk l159 l160 l161 (l161.length : Int) v163 l164 l165), v87, v200)
set_option maxRecDepth 100000 in
set_option maxHeartbeats 4000000 in
theorem p36 (N : Nat) (a0 : S74) (r : (S74 × Int × Int)) (h : d36 N a0 = some r) : FunM Try.prog 36 [.ptr 1000 0 0] [(1000, some (.box [.ref 25000 0 a0.buffer.length, .ref 25001 0 a0.disk.length, .ref 25002 0 a0.log.length, .i a0.flushed, .i a0.lastID, .ref 25005 0 a0.active.length, .ref 25006 0 a0.writer.length])), (25000, R78 a0.buffer), (25001, R78 a0.disk), (25002, R80 a0.log), (25005, R3 a0.active), (25006, R3 a0.writer)] [1000] (.tup [.i r.2.1, .i r.2.2]) ([(1000, (.box [.ref 25000 0 r.1.buffer.length, .ref 25001 0 r.1.disk.length, .ref 25002 0 r.1.log.length, .i r.1.flushed, .i r.1.lastID, .ref 25005 0 r.1.active.length, .ref 25006 0 r.1.writer.length])), (25000, (.arr 78 2 (r.1.buffer.map cS78))), (25001, (.arr 78 2 (r.1.disk.map cS78))), (25002, (.arr 80 5 (r.1.log.map cS80))), (25005, (.arr 3 1 (r.1.active.map (cI .i64)))), (25006, (.arr 3 1 (r.1.writer.map (cI .i64))))]) := by
 unfold d36 at h
 refine FunM.enter 149 [(0, .ptr 1000 0 0)] Try.func36 rfl (of_decide_eq_true rfl) rfl rfl ?_
 refine AW.seqR ?_
 refine Chain.runK [] 2 fun K hK => ?_; simp; refine hK _ _ ?_; clear hK K
 refine Chain.sub (S' := mk 149 [1000] [(0, .ptr 1000 0 0), (2, .i 0), (3, .i 0)] [(1000, some (.box [.ref 25000 0 a0.buffer.length, .ref 25001 0 a0.disk.length, .ref 25002 0 a0.log.length, .i a0.flushed, .i a0.lastID, .ref 25005 0 a0.active.length, .ref 25006 0 a0.writer.length])), (25000, R78 a0.buffer), (25001, R78 a0.disk), (25002, R80 a0.log), (25005, R3 a0.active), (25006, R3 a0.writer)]) Sub.tt ?_
 refine Chain.nil ?_
 replace h := bsome h; obtain ⟨n1, gn1, h⟩ := h
 obtain ⟨hn1a, hn1⟩ := natI_some gn1
 clear gn1
 replace h := bsome h; obtain ⟨r2, hr2, h⟩ := h
 refine AW.seqAnyS [[], [], [1], [1, 2], [1, 2, 3], [], [5], [5, 6], [5, 6, 7], [1, 2, 3, 4, 5, 6, 7, 8], [1, 2, 3, 4, 5, 6, 7, 8, 9], [0, 1, 2, 3, 4, 5, 6, 7, 8, 9, 10], [0, 1, 2, 3, 4, 5, 6, 7, 8, 9, 10, 11], [0, 1, 2, 3, 4, 5, 6, 7, 8, 9, 10, 11, 12]] (fun (b : Nat → Bool) => mk 149 [1000] [(0, .ptr 1000 0 0), (2, .i 0), (3, .i 0), (12, (if b 0 then .ptr 1000 0 0 else .junk)), (13, (if b 1 then .ptr 1000 0 0 else .junk)), (14, (if b 2 then .ptr 1000 0 0 else .junk)), (15, (if b 3 then .ptr 1000 0 2 else .junk)), (16, (if b 4 then .ref 25002 0 a0.log.length else .junk)), (17, (if b 5 then .ptr 1000 0 0 else .junk)), (18, (if b 6 then .ptr 1000 0 0 else .junk)), (19, (if b 7 then .ptr 1000 0 3 else .junk)), (20, (if b 8 then .i a0.flushed else .junk)), (21, (if b 9 then .ref 25002 0 n1 else .junk)), (22, (if b 10 then .ref 22 0 r2.length else .junk)), (23, (if b 11 then .ptr 1000 0 0 else .junk)), (24, (if b 12 then .ptr 1000 0 2 else .junk))] [(22, (if b 10 then R80 r2 else none)), (1000, (if b 13 then some (.box [.ref 25000 0 a0.buffer.length, .ref 25001 0 a0.disk.length, .ref 22 0 r2.length, .i a0.flushed, .i a0.lastID, .ref 25005 0 a0.active.length, .ref 25006 0 a0.writer.length]) else some (.box [.ref 25000 0 a0.buffer.length, .ref 25001 0 a0.disk.length, .ref 25002 0 a0.log.length, .i a0.flushed, .i a0.lastID, .ref 25005 0 a0.active.length, .ref 25006 0 a0.writer.length]))), (25000, R78 a0.buffer), (25001, R78 a0.disk), (25002, R80 a0.log), (25005, R3 a0.active), (25006, R3 a0.writer)]) (mk 149 [1000] [(0, .ptr 1000 0 0), (2, .i 0), (3, .i 0)] [(22, R80 r2), (1000, some (.box [.ref 25000 0 a0.buffer.length, .ref 25001 0 a0.disk.length, .ref 22 0 r2.length, .i a0.flushed, .i a0.lastID, .ref 25005 0 a0.active.length, .ref 25006 0 a0.writer.length])), (25000, R78 a0.buffer), (25001, R78 a0.disk), (25005, R3 a0.active), (25006, R3 a0.writer)]) (by kernel_rfl) (by kernel_rfl) Sub.tt (Steps.cons ?_ (Steps.cons ?_ (Steps.cons ?_ (Steps.cons ?_ (Steps.cons ?_ (Steps.cons ?_ (Steps.cons ?_ (Steps.cons ?_ (Steps.cons ?_ (Steps.cons ?_ (Steps.cons ?_ (Steps.cons ?_ (Steps.cons ?_ (Steps.cons ?_ (Steps.nil))))))))))))))) ?_ ?_
 ·intro b h0 ha hd
  have f11 : b 11 = false := hd 11 (by decide)
  have f12 : b 12 = false := hd 12 (by decide)
  have f13 : b 13 = false := hd 13 (by decide)
  refine Chain.runK [] 1 fun K hK => ?_; simp [h0, f11, f12, f13]; refine hK _ _ ?_; clear hK K
  exact Chain.nil (Sub.table (by simp [f11, f12]) (by simp [f13]))
 ·intro b h0 ha hd
  have f2 : b 2 = false := hd 2 (by decide)
  have f3 : b 3 = false := hd 3 (by decide)
  have f4 : b 4 = false := hd 4 (by decide)
  have f9 : b 9 = false := hd 9 (by decide)
  have f10 : b 10 = false := hd 10 (by decide)
  have f11 : b 11 = false := hd 11 (by decide)
  have f12 : b 12 = false := hd 12 (by decide)
  have f13 : b 13 = false := hd 13 (by decide)
  refine Chain.runK [] 1 fun K hK => ?_; simp [h0, f2, f3, f4, f9, f10, f11, f12, f13]; refine hK _ _ ?_; clear hK K
  exact Chain.nil (Sub.table (by simp [f2, f3, f4, f9, f10, f11, f12]) (by simp [f10, f13]))
 ·intro b h0 ha hd
  have t1 : b 1 = true := ha 1 (by decide)
  have f3 : b 3 = false := hd 3 (by decide)
  have f4 : b 4 = false := hd 4 (by decide)
  have f9 : b 9 = false := hd 9 (by decide)
  have f10 : b 10 = false := hd 10 (by decide)
  have f11 : b 11 = false := hd 11 (by decide)
  have f12 : b 12 = false := hd 12 (by decide)
  have f13 : b 13 = false := hd 13 (by decide)
  refine Chain.runK [] 1 fun K hK => ?_; simp [h0, t1, f3, f4, f9, f10, f11, f12, f13]; refine hK _ _ ?_; clear hK K
  exact Chain.nil (Sub.table (by simp [t1, f3, f4, f9, f10, f11, f12]) (by simp [f10, f13]))
 ·intro b h0 ha hd
  have t1 : b 1 = true := ha 1 (by decide)
  have t2 : b 2 = true := ha 2 (by decide)
  have f4 : b 4 = false := hd 4 (by decide)
  have f9 : b 9 = false := hd 9 (by decide)
  have f10 : b 10 = false := hd 10 (by decide)
  have f11 : b 11 = false := hd 11 (by decide)
  have f12 : b 12 = false := hd 12 (by decide)
  have f13 : b 13 = false := hd 13 (by decide)
  refine Chain.runK [] 1 fun K hK => ?_; simp [h0, t1, t2, f4, f9, f10, f11, f12, f13]; refine hK _ _ ?_; clear hK K
  exact Chain.nil (Sub.table (by simp [t1, t2, f4, f9, f10, f11, f12]) (by simp [f10, f13]))
 ·intro b h0 ha hd
  have t1 : b 1 = true := ha 1 (by decide)
  have t2 : b 2 = true := ha 2 (by decide)
  have t3 : b 3 = true := ha 3 (by decide)
  have f9 : b 9 = false := hd 9 (by decide)
  have f10 : b 10 = false := hd 10 (by decide)
  have f11 : b 11 = false := hd 11 (by decide)
  have f12 : b 12 = false := hd 12 (by decide)
  have f13 : b 13 = false := hd 13 (by decide)
  refine Chain.runK [] 1 fun K hK => ?_; simp [h0, t1, t2, t3, f9, f10, f11, f12, f13]; refine hK _ _ ?_; clear hK K
  exact Chain.nil (Sub.table (by simp [t1, t2, t3, f9, f10, f11, f12]) (by simp [f10, f13]))
 ·intro b h0 ha hd
  have f6 : b 6 = false := hd 6 (by decide)
  have f7 : b 7 = false := hd 7 (by decide)
  have f8 : b 8 = false := hd 8 (by decide)
  have f9 : b 9 = false := hd 9 (by decide)
  have f10 : b 10 = false := hd 10 (by decide)
  have f11 : b 11 = false := hd 11 (by decide)
  have f12 : b 12 = false := hd 12 (by decide)
  have f13 : b 13 = false := hd 13 (by decide)
  refine Chain.runK [] 1 fun K hK => ?_; simp [h0, f6, f7, f8, f9, f10, f11, f12, f13]; refine hK _ _ ?_; clear hK K
  exact Chain.nil (Sub.table (by simp [f6, f7, f8, f9, f10, f11, f12]) (by simp [f10, f13]))
 ·intro b h0 ha hd
  have t5 : b 5 = true := ha 5 (by decide)
  have f7 : b 7 = false := hd 7 (by decide)
  have f8 : b 8 = false := hd 8 (by decide)
  have f9 : b 9 = false := hd 9 (by decide)
  have f10 : b 10 = false := hd 10 (by decide)
  have f11 : b 11 = false := hd 11 (by decide)
  have f12 : b 12 = false := hd 12 (by decide)
  have f13 : b 13 = false := hd 13 (by decide)
  refine Chain.runK [] 1 fun K hK => ?_; simp [h0, t5, f7, f8, f9, f10, f11, f12, f13]; refine hK _ _ ?_; clear hK K
  exact Chain.nil (Sub.table (by simp [t5, f7, f8, f9, f10, f11, f12]) (by simp [f10, f13]))
 ·intro b h0 ha hd
  have t5 : b 5 = true := ha 5 (by decide)
  have t6 : b 6 = true := ha 6 (by decide)
  have f8 : b 8 = false := hd 8 (by decide)
  have f9 : b 9 = false := hd 9 (by decide)
  have f10 : b 10 = false := hd 10 (by decide)
  have f11 : b 11 = false := hd 11 (by decide)
  have f12 : b 12 = false := hd 12 (by decide)
  have f13 : b 13 = false := hd 13 (by decide)
  refine Chain.runK [] 1 fun K hK => ?_; simp [h0, t5, t6, f8, f9, f10, f11, f12, f13]; refine hK _ _ ?_; clear hK K
  exact Chain.nil (Sub.table (by simp [t5, t6, f8, f9, f10, f11, f12]) (by simp [f10, f13]))
 ·intro b h0 ha hd
  have t5 : b 5 = true := ha 5 (by decide)
  have t6 : b 6 = true := ha 6 (by decide)
  have t7 : b 7 = true := ha 7 (by decide)
  have f9 : b 9 = false := hd 9 (by decide)
  have f10 : b 10 = false := hd 10 (by decide)
  have f11 : b 11 = false := hd 11 (by decide)
  have f12 : b 12 = false := hd 12 (by decide)
  have f13 : b 13 = false := hd 13 (by decide)
  refine Chain.runK [] 1 fun K hK => ?_; simp [h0, t5, t6, t7, f9, f10, f11, f12, f13]; refine hK _ _ ?_; clear hK K
  exact Chain.nil (Sub.table (by simp [t5, t6, t7, f9, f10, f11, f12]) (by simp [f10, f13]))
 ·intro b h0 ha hd
  have t1 : b 1 = true := ha 1 (by decide)
  have t2 : b 2 = true := ha 2 (by decide)
  have t3 : b 3 = true := ha 3 (by decide)
  have t4 : b 4 = true := ha 4 (by decide)
  have t5 : b 5 = true := ha 5 (by decide)
  have t6 : b 6 = true := ha 6 (by decide)
  have t7 : b 7 = true := ha 7 (by decide)
  have t8 : b 8 = true := ha 8 (by decide)
  have f10 : b 10 = false := hd 10 (by decide)
  have f11 : b 11 = false := hd 11 (by decide)
  have f12 : b 12 = false := hd 12 (by decide)
  have f13 : b 13 = false := hd 13 (by decide)
  refine Chain.runK [] 1 fun K hK => ?_; simp [h0, t1, t2, t3, t4, t5, t6, t7, t8, f10, f11, f12, f13, hn1, hn1a]; refine hK _ _ ?_; clear hK K
  exact Chain.nil (Sub.table (by simp [t1, t2, t3, t4, t5, t6, t7, t8, f10, f11, f12, hn1a]) (by simp [f10, f13, hn1a]))
 ·intro b h0 ha hd
  have t1 : b 1 = true := ha 1 (by decide)
  have t2 : b 2 = true := ha 2 (by decide)
  have t3 : b 3 = true := ha 3 (by decide)
  have t4 : b 4 = true := ha 4 (by decide)
  have t5 : b 5 = true := ha 5 (by decide)
  have t6 : b 6 = true := ha 6 (by decide)
  have t7 : b 7 = true := ha 7 (by decide)
  have t8 : b 8 = true := ha 8 (by decide)
  have t9 : b 9 = true := ha 9 (by decide)
  have f11 : b 11 = false := hd 11 (by decide)
  have f12 : b 12 = false := hd 12 (by decide)
  have f13 : b 13 = false := hd 13 (by decide)
  simp only [h0, t1, t2, t3, t4, t5, t6, t7, t8, t9, f11, f12, f13, if_true, if_false, Bool.false_eq_true]
  refine Chain.callOF (d := 22) (p44 N (a0.log.take n1) r2 hr2) (by simp) rfl rfl (by simp <;> rfl) (by simp [hn1] <;> rfl) ent44 (by simp) (fun r h => flat_of_ren r h) (flat_map (by simp) _) ?_
  exact Chain.nil (by simp [t1, t2, t3, t4, t5, t6, t7, t8, t9, f11, f12, f13]; exact Sub.table (by simp) (by simp))
 ·intro b h0 ha hd
  have t0 : b 0 = true := ha 0 (by decide)
  have t1 : b 1 = true := ha 1 (by decide)
  have t2 : b 2 = true := ha 2 (by decide)
  have t3 : b 3 = true := ha 3 (by decide)
  have t4 : b 4 = true := ha 4 (by decide)
  have t5 : b 5 = true := ha 5 (by decide)
  have t6 : b 6 = true := ha 6 (by decide)
  have t7 : b 7 = true := ha 7 (by decide)
  have t8 : b 8 = true := ha 8 (by decide)
  have t9 : b 9 = true := ha 9 (by decide)
  have t10 : b 10 = true := ha 10 (by decide)
  have f12 : b 12 = false := hd 12 (by decide)
  have f13 : b 13 = false := hd 13 (by decide)
  refine Chain.runK [] 1 fun K hK => ?_; simp [h0, t0, t1, t2, t3, t4, t5, t6, t7, t8, t9, t10, f12, f13]; refine hK _ _ ?_; clear hK K
  exact Chain.nil (Sub.table (by simp [t0, t1, t2, t3, t4, t5, t6, t7, t8, t9, t10, f12]) (by simp [t10, f13]))
 ·intro b h0 ha hd
  have t0 : b 0 = true := ha 0 (by decide)
  have t1 : b 1 = true := ha 1 (by decide)
  have t2 : b 2 = true := ha 2 (by decide)
  have t3 : b 3 = true := ha 3 (by decide)
  have t4 : b 4 = true := ha 4 (by decide)
  have t5 : b 5 = true := ha 5 (by decide)
  have t6 : b 6 = true := ha 6 (by decide)
  have t7 : b 7 = true := ha 7 (by decide)
  have t8 : b 8 = true := ha 8 (by decide)
  have t9 : b 9 = true := ha 9 (by decide)
  have t10 : b 10 = true := ha 10 (by decide)
  have t11 : b 11 = true := ha 11 (by decide)
  have f13 : b 13 = false := hd 13 (by decide)
  refine Chain.runK [] 1 fun K hK => ?_; simp [h0, t0, t1, t2, t3, t4, t5, t6, t7, t8, t9, t10, t11, f13]; refine hK _ _ ?_; clear hK K
  exact Chain.nil (Sub.table (by simp [t0, t1, t2, t3, t4, t5, t6, t7, t8, t9, t10, t11]) (by simp [t10, f13]))
 ·intro b h0 ha hd
  have t0 : b 0 = true := ha 0 (by decide)
  have t1 : b 1 = true := ha 1 (by decide)
  have t2 : b 2 = true := ha 2 (by decide)
  have t3 : b 3 = true := ha 3 (by decide)
  have t4 : b 4 = true := ha 4 (by decide)
  have t5 : b 5 = true := ha 5 (by decide)
  have t6 : b 6 = true := ha 6 (by decide)
  have t7 : b 7 = true := ha 7 (by decide)
  have t8 : b 8 = true := ha 8 (by decide)
  have t9 : b 9 = true := ha 9 (by decide)
  have t10 : b 10 = true := ha 10 (by decide)
  have t11 : b 11 = true := ha 11 (by decide)
  have t12 : b 12 = true := ha 12 (by decide)
  refine Chain.runK [] 1 fun K hK => ?_; simp [h0, t0, t1, t2, t3, t4, t5, t6, t7, t8, t9, t10, t11, t12]; refine hK _ _ ?_; clear hK K
  exact Chain.nil (Sub.table (by simp [t0, t1, t2, t3, t4, t5, t6, t7, t8, t9, t10, t11, t12]) (by simp [t10]))
 ·intro b hb
  have t0 := hb 0 (by decide)
  have t1 := hb 1 (by decide)
  have t2 := hb 2 (by decide)
  have t3 := hb 3 (by decide)
  have t4 := hb 4 (by decide)
  have t5 := hb 5 (by decide)
  have t6 := hb 6 (by decide)
  have t7 := hb 7 (by decide)
  have t8 := hb 8 (by decide)
  have t9 := hb 9 (by decide)
  have t10 := hb 10 (by decide)
  have t11 := hb 11 (by decide)
  have t12 := hb 12 (by decide)
  have t13 := hb 13 (by decide)
  exact Sub.table (by simp [t0, t1, t2, t3, t4, t5, t6, t7, t8, t9, t10, t11, t12]) (by simp [t10, t13])
 ·skip
  refine AW.seqR ?_
  refine Chain.runK [] 1 fun K hK => ?_; simp; refine hK _ _ ?_; clear hK K
  refine Chain.sub (S' := mk 149 [1000] [(0, .ptr 1000 0 0), (2, .i 0), (3, .i 0), (25, .ptr 1000 0 0)] [(22, R80 r2), (1000, some (.box [.ref 25000 0 a0.buffer.length, .ref 25001 0 a0.disk.length, .ref 22 0 r2.length, .i a0.flushed, .i a0.lastID, .ref 25005 0 a0.active.length, .ref 25006 0 a0.writer.length])), (25000, R78 a0.buffer), (25001, R78 a0.disk), (25005, R3 a0.active), (25006, R3 a0.writer)]) Sub.tt ?_
  refine Chain.sub (S' := mk 149 [1000] [(0, .ptr 1000 0 0), (2, .i 0), (3, .i 0), (25, .ptr 1000 0 0)] [(1000, some (.box [.ref 25000 0 a0.buffer.length, .ref 25001 0 a0.disk.length, .ref 25002 0 r2.length, .i a0.flushed, .i a0.lastID, .ref 25005 0 a0.active.length, .ref 25006 0 a0.writer.length])), (25000, R78 a0.buffer), (25001, R78 a0.disk), (25002, R80 r2), (25005, R3 a0.active), (25006, R3 a0.writer)]) (Sub.names [(22, 25002), (1000, 1000), (25000, 25000), (25001, 25001), (25005, 25005), (25006, 25006)] (by simp) (by simp) (by simp [back]) (by simp [V.rnm, lk2]) (by simp [back, Blk.rnm, V.rnm, rnmL, lk2])) ?_
  refine Chain.runK [] 4 fun K hK => ?_; simp; refine hK _ _ ?_; clear hK K
  refine Chain.sub (S' := mk 149 [1000] [(0, .ptr 1000 0 0), (2, .i 0), (3, .i 0), (25, .ptr 1000 0 0), (29, .ref 25001 0 a0.disk.length)] [(1000, some (.box [.ref 25000 0 a0.buffer.length, .ref 25001 0 a0.disk.length, .ref 25002 0 r2.length, .i a0.flushed, .i a0.lastID, .ref 25005 0 a0.active.length, .ref 25006 0 a0.writer.length])), (25000, R78 a0.buffer), (25001, R78 a0.disk), (25002, R80 r2), (25005, R3 a0.active), (25006, R3 a0.writer)]) Sub.tt ?_
  replace h := bsome h; obtain ⟨r3, hr3, h⟩ := h
  refine Chain.callOF (d := 30) (p45 N a0.disk r3 hr3) (by simp) rfl rfl (by simp <;> rfl) (by simp <;> rfl) ent45 (by simp) (fun r h => flat_of_ren r h) (flat_map (by simp) _) ?_
  refine Chain.sub (S' := mk 149 [1000] [(0, .ptr 1000 0 0), (2, .i 0), (3, .i 0), (25, .ptr 1000 0 0), (29, .ref 25001 0 a0.disk.length), (30, .ref 30 0 r3.length)] [(30, R78 r3), (1000, some (.box [.ref 25000 0 a0.buffer.length, .ref 25001 0 a0.disk.length, .ref 25002 0 r2.length, .i a0.flushed, .i a0.lastID, .ref 25005 0 a0.active.length, .ref 25006 0 a0.writer.length])), (25000, R78 a0.buffer), (25001, R78 a0.disk), (25002, R80 r2), (25005, R3 a0.active), (25006, R3 a0.writer)]) (by simp; exact Sub.table (by simp) (by simp)) ?_
  refine Chain.runK [] 3 fun K hK => ?_; simp; refine hK _ _ ?_; clear hK K
  refine Chain.sub (S' := mk 149 [1000] [(0, .ptr 1000 0 0), (2, .i 0), (3, .i 0)] [(30, R78 r3), (1000, some (.box [.ref 30 0 r3.length, .ref 25001 0 a0.disk.length, .ref 25002 0 r2.length, .i a0.flushed, .i a0.lastID, .ref 25005 0 a0.active.length, .ref 25006 0 a0.writer.length])), (25001, R78 a0.disk), (25002, R80 r2), (25005, R3 a0.active), (25006, R3 a0.writer)]) Sub.tt ?_
  refine Chain.sub (S' := mk 149 [1000] [(0, .ptr 1000 0 0), (2, .i 0), (3, .i 0)] [(1000, some (.box [.ref 25000 0 r3.length, .ref 25001 0 a0.disk.length, .ref 25002 0 r2.length, .i a0.flushed, .i a0.lastID, .ref 25005 0 a0.active.length, .ref 25006 0 a0.writer.length])), (25000, R78 r3), (25001, R78 a0.disk), (25002, R80 r2), (25005, R3 a0.active), (25006, R3 a0.writer)]) (Sub.names [(30, 25000), (1000, 1000), (25001, 25001), (25002, 25002), (25005, 25005), (25006, 25006)] (by simp) (by simp) (by simp [back]) (by simp [V.rnm, lk2]) (by simp [back, Blk.rnm, V.rnm, rnmL, lk2])) ?_
  refine Chain.nil ?_
  replace h := bsome h; obtain ⟨l4, gl4, h⟩ := h
  obtain ⟨hl4a, hl4b, hl4c, hl4d⟩ := mkL_some (cI .i64) gl4
  clear gl4
  replace hl4c : List.replicate l4.length [.lit (.int .i64 0)] = l4.map (cI .i64) := hl4c
  refine AW.seqAnyS [[], [], [], [2], [2, 3], [2, 3, 4], [2, 3, 4, 5], [2, 3, 4, 5, 6], [0, 2, 3, 4, 5], [0, 2, 3, 4, 5, 8], [0, 2, 3, 4, 5, 8, 9], [0, 1, 2, 3, 4, 5, 6, 7, 8, 9, 10], [0, 1, 2, 3, 4, 5, 6, 7, 8, 9, 10, 11], [0, 1, 2, 3, 4, 5, 6, 7, 8, 9, 10, 11, 12]] (fun (b : Nat → Bool) => mk 149 [1000] [(0, .ptr 1000 0 0), (2, .i 0), (3, .i 0), (33, (if b 0 then .ptr 1000 0 0 else .junk)), (34, (if b 1 then .ptr 1000 0 0 else .junk)), (35, (if b 2 then .ptr 1000 0 0 else .junk)), (36, (if b 3 then .ptr 1000 0 0 else .junk)), (37, (if b 4 then .ptr 1000 0 0 else .junk)), (38, (if b 5 then .ref 25000 0 r3.length else .junk)), (39, (if b 6 then .i (r3.length : Int) else .junk)), (40, (if b 7 then .ref 40 0 l4.length else .junk)), (41, (if b 8 then .ptr 1000 0 0 else .junk)), (42, (if b 9 then .ptr 1000 0 5 else .junk)), (43, (if b 11 then .ptr 1000 0 0 else .junk)), (44, (if b 12 then .ptr 1000 0 6 else .junk))] [(40, (if b 7 then R3 l4 else none)), (1000, (if b 13 then some (.box [.ref 25000 0 r3.length, .ref 25001 0 a0.disk.length, .ref 25002 0 r2.length, .i a0.flushed, .i a0.lastID, .d (.lit (.slice none 0 0)), .ref 40 0 l4.length]) else (if b 10 then some (.box [.ref 25000 0 r3.length, .ref 25001 0 a0.disk.length, .ref 25002 0 r2.length, .i a0.flushed, .i a0.lastID, .d (.lit (.slice none 0 0)), .ref 25006 0 a0.writer.length]) else some (.box [.ref 25000 0 r3.length, .ref 25001 0 a0.disk.length, .ref 25002 0 r2.length, .i a0.flushed, .i a0.lastID, .ref 25005 0 a0.active.length, .ref 25006 0 a0.writer.length])))), (25000, R78 r3), (25001, R78 a0.disk), (25002, R80 r2), (25005, R3 a0.active), (25006, R3 a0.writer)]) (mk 149 [1000] [(0, .ptr 1000 0 0), (2, .i 0), (3, .i 0)] [(40, R3 l4), (1000, some (.box [.ref 25000 0 r3.length, .ref 25001 0 a0.disk.length, .ref 25002 0 r2.length, .i a0.flushed, .i a0.lastID, .d (.lit (.slice none 0 0)), .ref 40 0 l4.length])), (25000, R78 r3), (25001, R78 a0.disk), (25002, R80 r2)]) (by kernel_rfl) (by kernel_rfl) Sub.tt (Steps.cons ?_ (Steps.cons ?_ (Steps.cons ?_ (Steps.cons ?_ (Steps.cons ?_ (Steps.cons ?_ (Steps.cons ?_ (Steps.cons ?_ (Steps.cons ?_ (Steps.cons ?_ (Steps.cons ?_ (Steps.cons ?_ (Steps.cons ?_ (Steps.cons ?_ (Steps.nil))))))))))))))) ?_ ?_
  ·intro b h0 ha hd
   have f8 : b 8 = false := hd 8 (by decide)
   have f9 : b 9 = false := hd 9 (by decide)
   have f10 : b 10 = false := hd 10 (by decide)
   have f11 : b 11 = false := hd 11 (by decide)
   have f12 : b 12 = false := hd 12 (by decide)
   have f13 : b 13 = false := hd 13 (by decide)
   refine Chain.runK [] 1 fun K hK => ?_; simp [h0, f8, f9, f10, f11, f12, f13]; refine hK _ _ ?_; clear hK K
   exact Chain.nil (Sub.table (by simp [f8, f9, f11, f12]) (by simp [f10, f13]))
  ·intro b h0 ha hd
   have f11 : b 11 = false := hd 11 (by decide)
   have f12 : b 12 = false := hd 12 (by decide)
   have f13 : b 13 = false := hd 13 (by decide)
   refine Chain.runK [] 1 fun K hK => ?_; simp [h0, f11, f12, f13]; refine hK _ _ ?_; clear hK K
   exact Chain.nil (Sub.table (by simp [f11, f12]) (by simp [f13]))
  ·intro b h0 ha hd
   have f3 : b 3 = false := hd 3 (by decide)
   have f4 : b 4 = false := hd 4 (by decide)
   have f5 : b 5 = false := hd 5 (by decide)
   have f6 : b 6 = false := hd 6 (by decide)
   have f7 : b 7 = false := hd 7 (by decide)
   have f8 : b 8 = false := hd 8 (by decide)
   have f9 : b 9 = false := hd 9 (by decide)
   have f10 : b 10 = false := hd 10 (by decide)
   have f11 : b 11 = false := hd 11 (by decide)
   have f12 : b 12 = false := hd 12 (by decide)
   have f13 : b 13 = false := hd 13 (by decide)
   refine Chain.runK [] 1 fun K hK => ?_; simp [h0, f3, f4, f5, f6, f7, f8, f9, f10, f11, f12, f13]; refine hK _ _ ?_; clear hK K
   exact Chain.nil (Sub.table (by simp [f3, f4, f5, f6, f7, f8, f9, f11, f12]) (by simp [f7, f10, f13]))
  ·intro b h0 ha hd
   have t2 : b 2 = true := ha 2 (by decide)
   have f4 : b 4 = false := hd 4 (by decide)
   have f5 : b 5 = false := hd 5 (by decide)
   have f6 : b 6 = false := hd 6 (by decide)
   have f7 : b 7 = false := hd 7 (by decide)
   have f8 : b 8 = false := hd 8 (by decide)
   have f9 : b 9 = false := hd 9 (by decide)
   have f10 : b 10 = false := hd 10 (by decide)
   have f11 : b 11 = false := hd 11 (by decide)
   have f12 : b 12 = false := hd 12 (by decide)
   have f13 : b 13 = false := hd 13 (by decide)
   refine Chain.runK [] 1 fun K hK => ?_; simp [h0, t2, f4, f5, f6, f7, f8, f9, f10, f11, f12, f13]; refine hK _ _ ?_; clear hK K
   exact Chain.nil (Sub.table (by simp [t2, f4, f5, f6, f7, f8, f9, f11, f12]) (by simp [f7, f10, f13]))
  ·intro b h0 ha hd
   have t2 : b 2 = true := ha 2 (by decide)
   have t3 : b 3 = true := ha 3 (by decide)
   have f5 : b 5 = false := hd 5 (by decide)
   have f6 : b 6 = false := hd 6 (by decide)
   have f7 : b 7 = false := hd 7 (by decide)
   have f8 : b 8 = false := hd 8 (by decide)
   have f9 : b 9 = false := hd 9 (by decide)
   have f10 : b 10 = false := hd 10 (by decide)
   have f11 : b 11 = false := hd 11 (by decide)
   have f12 : b 12 = false := hd 12 (by decide)
   have f13 : b 13 = false := hd 13 (by decide)
   refine Chain.runK [] 1 fun K hK => ?_; simp [h0, t2, t3, f5, f6, f7, f8, f9, f10, f11, f12, f13]; refine hK _ _ ?_; clear hK K
   exact Chain.nil (Sub.table (by simp [t2, t3, f5, f6, f7, f8, f9, f11, f12]) (by simp [f7, f10, f13]))
  ·intro b h0 ha hd
   have t2 : b 2 = true := ha 2 (by decide)
   have t3 : b 3 = true := ha 3 (by decide)
   have t4 : b 4 = true := ha 4 (by decide)
   have f6 : b 6 = false := hd 6 (by decide)
   have f7 : b 7 = false := hd 7 (by decide)
   have f8 : b 8 = false := hd 8 (by decide)
   have f9 : b 9 = false := hd 9 (by decide)
   have f10 : b 10 = false := hd 10 (by decide)
   have f11 : b 11 = false := hd 11 (by decide)
   have f12 : b 12 = false := hd 12 (by decide)
   have f13 : b 13 = false := hd 13 (by decide)
   refine Chain.runK [] 1 fun K hK => ?_; simp [h0, t2, t3, t4, f6, f7, f8, f9, f10, f11, f12, f13]; refine hK _ _ ?_; clear hK K
   exact Chain.nil (Sub.table (by simp [t2, t3, t4, f6, f7, f8, f9, f11, f12]) (by simp [f7, f10, f13]))
  ·intro b h0 ha hd
   have t2 : b 2 = true := ha 2 (by decide)
   have t3 : b 3 = true := ha 3 (by decide)
   have t4 : b 4 = true := ha 4 (by decide)
   have t5 : b 5 = true := ha 5 (by decide)
   have f7 : b 7 = false := hd 7 (by decide)
   have f11 : b 11 = false := hd 11 (by decide)
   have f12 : b 12 = false := hd 12 (by decide)
   have f13 : b 13 = false := hd 13 (by decide)
   refine Chain.runK [] 1 fun K hK => ?_; simp [h0, t2, t3, t4, t5, f7, f11, f12, f13]; refine hK _ _ ?_; clear hK K
   exact Chain.nil (Sub.table (by simp [t2, t3, t4, t5, f7, f11, f12]) (by simp [f7, f13]))
  ·intro b h0 ha hd
   have t2 : b 2 = true := ha 2 (by decide)
   have t3 : b 3 = true := ha 3 (by decide)
   have t4 : b 4 = true := ha 4 (by decide)
   have t5 : b 5 = true := ha 5 (by decide)
   have t6 : b 6 = true := ha 6 (by decide)
   have f11 : b 11 = false := hd 11 (by decide)
   have f12 : b 12 = false := hd 12 (by decide)
   have f13 : b 13 = false := hd 13 (by decide)
   cases q10 : b 10 <;> (refine Chain.runK [] 1 fun K hK => ?_; simp [h0, t2, t3, t4, t5, t6, f11, f12, f13, hl4a, hl4b, hl4c, hl4d]; refine hK _ _ ?_; clear hK K; exact Chain.nil (Sub.table (by simp [t2, t3, t4, t5, t6, f11, f12]) (by simp [f13, q10])))
  ·intro b h0 ha hd
   have t0 : b 0 = true := ha 0 (by decide)
   have t2 : b 2 = true := ha 2 (by decide)
   have t3 : b 3 = true := ha 3 (by decide)
   have t4 : b 4 = true := ha 4 (by decide)
   have t5 : b 5 = true := ha 5 (by decide)
   have f9 : b 9 = false := hd 9 (by decide)
   have f10 : b 10 = false := hd 10 (by decide)
   have f11 : b 11 = false := hd 11 (by decide)
   have f12 : b 12 = false := hd 12 (by decide)
   have f13 : b 13 = false := hd 13 (by decide)
   refine Chain.runK [] 1 fun K hK => ?_; simp [h0, t0, t2, t3, t4, t5, f9, f10, f11, f12, f13]; refine hK _ _ ?_; clear hK K
   exact Chain.nil (Sub.table (by simp [t0, t2, t3, t4, t5, f9, f11, f12]) (by simp [f10, f13]))
  ·intro b h0 ha hd
   have t0 : b 0 = true := ha 0 (by decide)
   have t2 : b 2 = true := ha 2 (by decide)
   have t3 : b 3 = true := ha 3 (by decide)
   have t4 : b 4 = true := ha 4 (by decide)
   have t5 : b 5 = true := ha 5 (by decide)
   have t8 : b 8 = true := ha 8 (by decide)
   have f10 : b 10 = false := hd 10 (by decide)
   have f11 : b 11 = false := hd 11 (by decide)
   have f12 : b 12 = false := hd 12 (by decide)
   have f13 : b 13 = false := hd 13 (by decide)
   refine Chain.runK [] 1 fun K hK => ?_; simp [h0, t0, t2, t3, t4, t5, t8, f10, f11, f12, f13]; refine hK _ _ ?_; clear hK K
   exact Chain.nil (Sub.table (by simp [t0, t2, t3, t4, t5, t8, f11, f12]) (by simp [f10, f13]))
  ·intro b h0 ha hd
   have t0 : b 0 = true := ha 0 (by decide)
   have t2 : b 2 = true := ha 2 (by decide)
   have t3 : b 3 = true := ha 3 (by decide)
   have t4 : b 4 = true := ha 4 (by decide)
   have t5 : b 5 = true := ha 5 (by decide)
   have t8 : b 8 = true := ha 8 (by decide)
   have t9 : b 9 = true := ha 9 (by decide)
   have f11 : b 11 = false := hd 11 (by decide)
   have f12 : b 12 = false := hd 12 (by decide)
   have f13 : b 13 = false := hd 13 (by decide)
   refine Chain.runK [] 1 fun K hK => ?_; simp [h0, t0, t2, t3, t4, t5, t8, t9, f11, f12, f13]; refine hK _ _ ?_; clear hK K
   exact Chain.nil (Sub.table (by simp [t0, t2, t3, t4, t5, t8, t9, f11, f12]) (by simp [f13]))
  ·intro b h0 ha hd
   have t0 : b 0 = true := ha 0 (by decide)
   have t1 : b 1 = true := ha 1 (by decide)
   have t2 : b 2 = true := ha 2 (by decide)
   have t3 : b 3 = true := ha 3 (by decide)
   have t4 : b 4 = true := ha 4 (by decide)
   have t5 : b 5 = true := ha 5 (by decide)
   have t6 : b 6 = true := ha 6 (by decide)
   have t7 : b 7 = true := ha 7 (by decide)
   have t8 : b 8 = true := ha 8 (by decide)
   have t9 : b 9 = true := ha 9 (by decide)
   have t10 : b 10 = true := ha 10 (by decide)
   have f12 : b 12 = false := hd 12 (by decide)
   have f13 : b 13 = false := hd 13 (by decide)
   refine Chain.runK [] 1 fun K hK => ?_; simp [h0, t0, t1, t2, t3, t4, t5, t6, t7, t8, t9, t10, f12, f13]; refine hK _ _ ?_; clear hK K
   exact Chain.nil (Sub.table (by simp [t0, t1, t2, t3, t4, t5, t6, t7, t8, t9, f12]) (by simp [t7, t10, f13]))
  ·intro b h0 ha hd
   have t0 : b 0 = true := ha 0 (by decide)
   have t1 : b 1 = true := ha 1 (by decide)
   have t2 : b 2 = true := ha 2 (by decide)
   have t3 : b 3 = true := ha 3 (by decide)
   have t4 : b 4 = true := ha 4 (by decide)
   have t5 : b 5 = true := ha 5 (by decide)
   have t6 : b 6 = true := ha 6 (by decide)
   have t7 : b 7 = true := ha 7 (by decide)
   have t8 : b 8 = true := ha 8 (by decide)
   have t9 : b 9 = true := ha 9 (by decide)
   have t10 : b 10 = true := ha 10 (by decide)
   have t11 : b 11 = true := ha 11 (by decide)
   have f13 : b 13 = false := hd 13 (by decide)
   refine Chain.runK [] 1 fun K hK => ?_; simp [h0, t0, t1, t2, t3, t4, t5, t6, t7, t8, t9, t10, t11, f13]; refine hK _ _ ?_; clear hK K
   exact Chain.nil (Sub.table (by simp [t0, t1, t2, t3, t4, t5, t6, t7, t8, t9, t11]) (by simp [t7, t10, f13]))
  ·intro b h0 ha hd
   have t0 : b 0 = true := ha 0 (by decide)
   have t1 : b 1 = true := ha 1 (by decide)
   have t2 : b 2 = true := ha 2 (by decide)
   have t3 : b 3 = true := ha 3 (by decide)
   have t4 : b 4 = true := ha 4 (by decide)
   have t5 : b 5 = true := ha 5 (by decide)
   have t6 : b 6 = true := ha 6 (by decide)
   have t7 : b 7 = true := ha 7 (by decide)
   have t8 : b 8 = true := ha 8 (by decide)
   have t9 : b 9 = true := ha 9 (by decide)
   have t10 : b 10 = true := ha 10 (by decide)
   have t11 : b 11 = true := ha 11 (by decide)
   have t12 : b 12 = true := ha 12 (by decide)
   refine Chain.runK [] 1 fun K hK => ?_; simp [h0, t0, t1, t2, t3, t4, t5, t6, t7, t8, t9, t10, t11, t12]; refine hK _ _ ?_; clear hK K
   exact Chain.nil (Sub.table (by simp [t0, t1, t2, t3, t4, t5, t6, t7, t8, t9, t11, t12]) (by simp [t7]))
  ·intro b hb
   have t0 := hb 0 (by decide)
   have t1 := hb 1 (by decide)
   have t2 := hb 2 (by decide)
   have t3 := hb 3 (by decide)
   have t4 := hb 4 (by decide)
   have t5 := hb 5 (by decide)
   have t6 := hb 6 (by decide)
   have t7 := hb 7 (by decide)
   have t8 := hb 8 (by decide)
   have t9 := hb 9 (by decide)
   have t10 := hb 10 (by decide)
   have t11 := hb 11 (by decide)
   have t12 := hb 12 (by decide)
   have t13 := hb 13 (by decide)
   exact Sub.table (by simp [t0, t1, t2, t3, t4, t5, t6, t7, t8, t9, t11, t12]) (by simp [t7, t13])
  ·skip
   refine AW.seqR ?_
   refine Chain.mmake (.int .i64) (by simp) rfl rfl (by simp) ?_
   refine Chain.sub (S' := mk 149 [1000] [(0, .ptr 1000 0 0), (2, .i 0), (3, .i 0), (45, .mref 45)] [(40, R3 l4), (45, some (.mp (.int .i64) (encM MKey.ik vB ([] : List (Int × Bool))))), (1000, some (.box [.ref 25000 0 r3.length, .ref 25001 0 a0.disk.length, .ref 25002 0 r2.length, .i a0.flushed, .i a0.lastID, .d (.lit (.slice none 0 0)), .ref 40 0 l4.length])), (25000, R78 r3), (25001, R78 a0.disk), (25002, R80 r2)]) (by simp; exact Sub.table (by simp) (by simp [encM_nil])) ?_
   refine Chain.runK [] 1 fun K hK => ?_; simp; refine hK _ _ ?_; clear hK K
   refine Chain.sub (S' := mk 149 [1000] [(0, .ptr 1000 0 0), (2, .i 0), (3, .i 0), (4, .mref 45)] [(40, R3 l4), (45, some (.mp (.int .i64) (encM MKey.ik vB ([] : List (Int × Bool))))), (1000, some (.box [.ref 25000 0 r3.length, .ref 25001 0 a0.disk.length, .ref 25002 0 r2.length, .i a0.flushed, .i a0.lastID, .d (.lit (.slice none 0 0)), .ref 40 0 l4.length])), (25000, R78 r3), (25001, R78 a0.disk), (25002, R80 r2)]) Sub.tt ?_
   refine Chain.sub (Sub.nilOwnBox (bid := 1000) (j := 5) (id := 25005) (T := 3) (n := 1) rfl rfl (by decide) rfl (by decide)) ?_
   refine Chain.sub (S' := mk 149 [1000] [(0, .ptr 1000 0 0), (2, .i 0), (3, .i 0), (4, .mref 45)] [(40, R3 l4), (45, some (.mp (.int .i64) (encM MKey.ik vB ([] : List (Int × Bool))))), (1000, some (.box [.ref 25000 0 r3.length, .ref 25001 0 a0.disk.length, .ref 25002 0 r2.length, .i a0.flushed, .i a0.lastID, .ref 25005 0 (([] : List Int).length), .ref 40 0 l4.length])), (25000, R78 r3), (25001, R78 a0.disk), (25002, R80 r2), (25005, R3 ([] : List Int))]) (by simp; exact Sub.table (by simp) (by simp)) ?_
   refine Chain.sub (S' := mk 149 [1000] [(0, .ptr 1000 0 0), (2, .i 0), (3, .i 0), (4, .mref 45)] [(45, some (.mp (.int .i64) (encM MKey.ik vB ([] : List (Int × Bool))))), (1000, some (.box [.ref 25000 0 r3.length, .ref 25001 0 a0.disk.length, .ref 25002 0 r2.length, .i a0.flushed, .i a0.lastID, .ref 25005 0 (([] : List Int).length), .ref 25006 0 l4.length])), (25000, R78 r3), (25001, R78 a0.disk), (25002, R80 r2), (25005, R3 ([] : List Int)), (25006, R3 l4)]) (Sub.names [(40, 25006), (45, 45), (1000, 1000), (25000, 25000), (25001, 25001), (25002, 25002), (25005, 25005)] (by simp) (by simp) (by simp [back]) (by simp [V.rnm, lk2]) (by simp [back, Blk.rnm, V.rnm, rnmL, lk2])) ?_
   refine Chain.nil ?_
   refine AW.seq ?_
   refine AW.seqR ?_
   refine Chain.runK [] 6 fun K hK => ?_; simp; refine hK _ _ ?_; clear hK K
   refine Chain.sub (S' := mk 149 [1000] [(0, .ptr 1000 0 0), (2, .i 0), (3, .i 0), (4, .mref 45), (49, .ref 25002 0 r2.length), (50, .i (r2.length : Int)), (51, .i 0)] [(45, some (.mp (.int .i64) (encM MKey.ik vB ([] : List (Int × Bool))))), (1000, some (.box [.ref 25000 0 r3.length, .ref 25001 0 a0.disk.length, .ref 25002 0 r2.length, .i a0.flushed, .i a0.lastID, .ref 25005 0 (([] : List Int).length), .ref 25006 0 l4.length])), (25000, R78 r3), (25001, R78 a0.disk), (25002, R80 r2), (25005, R3 ([] : List Int)), (25006, R3 l4)]) Sub.tt ?_
   refine Chain.nil ?_
   refine AW.lastN (fun ((l86, v87, m88) : ((List S78) × Int × (List (Int × Bool)))) => mk 149 [1000] [(0, .ptr 1000 0 0), (2, .i v87), (3, .i 0), (4, .mref 45)] [(45, some (.mp (.int .i64) (encM MKey.ik vB m88))), (1000, some (.box [.ref 25000 0 l86.length, .ref 25001 0 a0.disk.length, .ref 25002 0 r2.length, .i a0.flushed, .i a0.lastID, .ref 25005 0 (([] : List Int).length), .ref 25006 0 l4.length])), (25000, R78 l86), (25001, R78 a0.disk), (25002, R80 r2), (25005, R3 ([] : List Int)), (25006, R3 l4)]) h ?_ ?_ <;> clear h
   ·intro o h
    refine AW.block ?_
    refine AW.iter (fun ((l28, v29, m30, v31) : ((List S78) × Int × (List (Int × Bool)) × Int)) => mk 149 [1000] [(0, .ptr 1000 0 0), (2, .i v29), (3, .i 0), (4, .mref 45), (49, .ref 25002 0 r2.length), (50, .i (r2.length : Int)), (51, .i v31)] [(45, some (.mp (.int .i64) (encM MKey.ik vB m30))), (1000, some (.box [.ref 25000 0 l28.length, .ref 25001 0 a0.disk.length, .ref 25002 0 r2.length, .i a0.flushed, .i a0.lastID, .ref 25005 0 (([] : List Int).length), .ref 25006 0 l4.length])), (25000, R78 l28), (25001, R78 a0.disk), (25002, R80 r2), (25005, R3 ([] : List Int)), (25006, R3 l4)]) h Sub.tt ?_
    clear h
    rintro ⟨l28, v29, m30, v31⟩ x h
    dsimp only at h ⊢
    refine AW.seqR ?_
    refine Chain.runK [] 1 fun K hK => ?_; simp; refine hK _ _ ?_; clear hK K
    refine Chain.sub (S' := mk 149 [1000] [(0, .ptr 1000 0 0), (2, .i v29), (3, .i 0), (4, .mref 45), (49, .ref 25002 0 r2.length), (50, .i (r2.length : Int)), (51, .i v31), (52, .b (decide (v31 < (r2.length : Int))))] [(45, some (.mp (.int .i64) (encM MKey.ik vB m30))), (1000, some (.box [.ref 25000 0 l28.length, .ref 25001 0 a0.disk.length, .ref 25002 0 r2.length, .i a0.flushed, .i a0.lastID, .ref 25005 0 (([] : List Int).length), .ref 25006 0 l4.length])), (25000, R78 l28), (25001, R78 a0.disk), (25002, R80 r2), (25005, R3 ([] : List Int)), (25006, R3 l4)]) Sub.tt ?_
    refine Chain.nil ?_
    refine AW.seq ?_
    replace h := isome h; rcases h with ⟨c89, h⟩ | ⟨c89, h⟩
    ·have c89_ : decide (v31 < (r2.length : Int)) = true := decide_eq_true c89
     refine AW.condT (b := decide (v31 < (r2.length : Int))) rfl c89_ ?_
     refine AW.sub (Sub.bool 52 (b := decide (v31 < (r2.length : Int))) rfl c89_) ?_
     refine AW.sub (S' := mk 149 [1000] [(0, .ptr 1000 0 0), (2, .i v29), (3, .i 0), (4, .mref 45), (49, .ref 25002 0 r2.length), (50, .i (r2.length : Int)), (51, .i v31), (52, .b true)] [(45, some (.mp (.int .i64) (encM MKey.ik vB m30))), (1000, some (.box [.ref 25000 0 l28.length, .ref 25001 0 a0.disk.length, .ref 25002 0 r2.length, .i a0.flushed, .i a0.lastID, .ref 25005 0 (([] : List Int).length), .ref 25006 0 l4.length])), (25000, R78 l28), (25001, R78 a0.disk), (25002, R80 r2), (25005, R3 ([] : List Int)), (25006, R3 l4)]) (by simp; exact Sub.table (by simp) (by simp)) ?_
     refine AW.skip ?_
     refine thenQ_normal ?_
     refine AW.seqN (fun ((l100, v101, m102) : ((List S78) × Int × (List (Int × Bool)))) => mk 149 [1000] [(0, .ptr 1000 0 0), (2, .i v101), (3, .i 0), (4, .mref 45), (49, .ref 25002 0 r2.length), (50, .i (r2.length : Int)), (51, .i v31)] [(45, some (.mp (.int .i64) (encM MKey.ik vB m102))), (1000, some (.box [.ref 25000 0 l100.length, .ref 25001 0 a0.disk.length, .ref 25002 0 r2.length, .i a0.flushed, .i a0.lastID, .ref 25005 0 (([] : List Int).length), .ref 25006 0 l4.length])), (25000, R78 l100), (25001, R78 a0.disk), (25002, R80 r2), (25005, R3 ([] : List Int)), (25006, R3 l4)]) h ?_ ?_ <;> clear h
     ·intro o h
      refine AW.block ?_
      refine AW.seqR ?_
      replace h := bsome h; obtain ⟨x103, hx103, h⟩ := h
      obtain ⟨k104, hx103k, hx103, hx103a, hx103b⟩ := idx_some hx103
      refine Chain.runK [] 6 fun K hK => ?_; simp [hx103, hx103k, hx103a, hx103b]; refine hK _ _ ?_; clear hK K
      refine Chain.sub (S' := mk 149 [1000] [(0, .ptr 1000 0 0), (2, .i v29), (3, .i 0), (4, .mref 45), (5, .i v31), (6, .ptr 6 0 0), (49, .ref 25002 0 r2.length), (50, .i (r2.length : Int)), (51, .i v31)] [(6, some (.box [.i x103.kind, .i x103.tx, .i x103.page, .i x103.before, .i x103.after])), (45, some (.mp (.int .i64) (encM MKey.ik vB m30))), (1000, some (.box [.ref 25000 0 l28.length, .ref 25001 0 a0.disk.length, .ref 25002 0 r2.length, .i a0.flushed, .i a0.lastID, .ref 25005 0 (([] : List Int).length), .ref 25006 0 l4.length])), (25000, R78 l28), (25001, R78 a0.disk), (25002, R80 r2), (25005, R3 ([] : List Int)), (25006, R3 l4)]) Sub.tt ?_
      refine Chain.nil ?_
      refine AW.seq ?_
      refine AW.seqR ?_
      refine Chain.runK [] 3 fun K hK => ?_; simp; refine hK _ _ ?_; clear hK K
      refine Chain.sub (S' := mk 149 [1000] [(0, .ptr 1000 0 0), (2, .i v29), (3, .i 0), (4, .mref 45), (5, .i v31), (6, .ptr 6 0 0), (49, .ref 25002 0 r2.length), (50, .i (r2.length : Int)), (51, .i v31), (58, .b (x103.kind == 3))] [(6, some (.box [.i x103.kind, .i x103.tx, .i x103.page, .i x103.before, .i x103.after])), (45, some (.mp (.int .i64) (encM MKey.ik vB m30))), (1000, some (.box [.ref 25000 0 l28.length, .ref 25001 0 a0.disk.length, .ref 25002 0 r2.length, .i a0.flushed, .i a0.lastID, .ref 25005 0 (([] : List Int).length), .ref 25006 0 l4.length])), (25000, R78 l28), (25001, R78 a0.disk), (25002, R80 r2), (25005, R3 ([] : List Int)), (25006, R3 l4)]) Sub.tt ?_
      refine Chain.nil ?_
      replace h := isome h; rcases h with ⟨c105, h⟩ | ⟨c105, h⟩
      ·have c105_ : (x103.kind == 3) = true := c105
       refine AW.condT (b := (x103.kind == 3)) rfl c105_ ?_
       refine AW.sub (Sub.bool 58 (b := (x103.kind == 3)) rfl c105_) ?_
       refine AW.sub (S' := mk 149 [1000] [(0, .ptr 1000 0 0), (2, .i v29), (3, .i 0), (4, .mref 45), (5, .i v31), (6, .ptr 6 0 0), (49, .ref 25002 0 r2.length), (50, .i (r2.length : Int)), (51, .i v31), (58, .b true)] [(6, some (.box [.i x103.kind, .i x103.tx, .i x103.page, .i x103.before, .i x103.after])), (45, some (.mp (.int .i64) (encM MKey.ik vB m30))), (1000, some (.box [.ref 25000 0 l28.length, .ref 25001 0 a0.disk.length, .ref 25002 0 r2.length, .i a0.flushed, .i a0.lastID, .ref 25005 0 (([] : List Int).length), .ref 25006 0 l4.length])), (25000, R78 l28), (25001, R78 a0.disk), (25002, R80 r2), (25005, R3 ([] : List Int)), (25006, R3 l4)]) (by simp; exact Sub.table (by simp) (by simp)) ?_
       refine AW.seqR ?_
       refine Chain.runK [] 3 fun K hK => ?_; simp; refine hK _ _ ?_; clear hK K
       refine Chain.sub (S' := mk 149 [1000] [(0, .ptr 1000 0 0), (2, .i v29), (3, .i 0), (4, .mref 45), (49, .ref 25002 0 r2.length), (50, .i (r2.length : Int)), (51, .i v31), (59, .mref 45), (61, .i x103.tx)] [(45, some (.mp (.int .i64) (encM MKey.ik vB m30))), (1000, some (.box [.ref 25000 0 l28.length, .ref 25001 0 a0.disk.length, .ref 25002 0 r2.length, .i a0.flushed, .i a0.lastID, .ref 25005 0 (([] : List Int).length), .ref 25006 0 l4.length])), (25000, R78 l28), (25001, R78 a0.disk), (25002, R80 r2), (25005, R3 ([] : List Int)), (25006, R3 l4)]) Sub.tt ?_
       refine Chain.msetE (vf := vB) ik_inj m30 x103.tx true (by simp) (.inl rfl) ty93 rfl ty3 rfl rfl rfl rfl rfl rfl rfl ?_
       refine Chain.sub (S' := mk 149 [1000] [(0, .ptr 1000 0 0), (2, .i v29), (3, .i 0), (4, .mref 45), (49, .ref 25002 0 r2.length), (50, .i (r2.length : Int)), (51, .i v31), (59, .mref 45), (61, .i x103.tx)] [(45, some (.mp (.int .i64) (encM MKey.ik vB (mput m30 x103.tx true)))), (1000, some (.box [.ref 25000 0 l28.length, .ref 25001 0 a0.disk.length, .ref 25002 0 r2.length, .i a0.flushed, .i a0.lastID, .ref 25005 0 (([] : List Int).length), .ref 25006 0 l4.length])), (25000, R78 l28), (25001, R78 a0.disk), (25002, R80 r2), (25005, R3 ([] : List Int)), (25006, R3 l4)]) (by simp; exact Sub.table (by simp) (by simp)) ?_
       refine Chain.nil ?_
       refine AW.exit ?_
       cases h
       refine thenQ_pass (by simp) ?_
       refine blockQ.hit ?_
       refine PostN.next ?_
       exact Sub.tt
      ·have c105_ : (x103.kind == 3) = false := Bool.eq_false_iff.2 c105
       refine AW.condF (b := (x103.kind == 3)) rfl c105_ ?_
       refine AW.sub (Sub.bool 58 (b := (x103.kind == 3)) rfl c105_) ?_
       refine AW.sub (S' := mk 149 [1000] [(0, .ptr 1000 0 0), (2, .i v29), (3, .i 0), (4, .mref 45), (5, .i v31), (6, .ptr 6 0 0), (49, .ref 25002 0 r2.length), (50, .i (r2.length : Int)), (51, .i v31), (58, .b false)] [(6, some (.box [.i x103.kind, .i x103.tx, .i x103.page, .i x103.before, .i x103.after])), (45, some (.mp (.int .i64) (encM MKey.ik vB m30))), (1000, some (.box [.ref 25000 0 l28.length, .ref 25001 0 a0.disk.length, .ref 25002 0 r2.length, .i a0.flushed, .i a0.lastID, .ref 25005 0 (([] : List Int).length), .ref 25006 0 l4.length])), (25000, R78 l28), (25001, R78 a0.disk), (25002, R80 r2), (25005, R3 ([] : List Int)), (25006, R3 l4)]) (by simp; exact Sub.table (by simp) (by simp)) ?_
       refine AW.skip ?_
       refine thenQ_normal ?_
       refine AW.seqQ (by kernel_rfl) (by kernel_rfl) ?_
       replace h := bsome h; obtain ⟨v106, hv106, h⟩ := h
       have hv106 := chkI_some hv106
       replace h := bsome h; obtain ⟨x107, hx107, h⟩ := h
       obtain ⟨k108, hx107k, hx107, hx107a, hx107b⟩ := idx_some hx107
       refine Chain.runQ 12 fun K hK => ?_; simp [hv106, hx107, hx107k, hx107a, hx107b]; refine hK _ _ ?_; clear hK K
       refine Chain.sub (S' := mk 149 [1000] [(0, .ptr 1000 0 0), (2, .i v29), (3, .i 0), (4, .mref 45), (5, .i v31), (6, .ptr 6 0 0), (49, .ref 25002 0 r2.length), (50, .i (r2.length : Int)), (51, .i v31), (73, .b (decide (v106 > x107.lsn)))] [(6, some (.box [.i x103.kind, .i x103.tx, .i x103.page, .i x103.before, .i x103.after])), (45, some (.mp (.int .i64) (encM MKey.ik vB m30))), (1000, some (.box [.ref 25000 0 l28.length, .ref 25001 0 a0.disk.length, .ref 25002 0 r2.length, .i a0.flushed, .i a0.lastID, .ref 25005 0 (([] : List Int).length), .ref 25006 0 l4.length])), (25000, R78 l28), (25001, R78 a0.disk), (25002, R80 r2), (25005, R3 ([] : List Int)), (25006, R3 l4)]) Sub.tt ?_
       refine Chain.nil ?_
       replace h := isome h; rcases h with ⟨c109, h⟩ | ⟨c109, h⟩
       ·have c109_ : decide (v106 > x107.lsn) = true := decide_eq_true c109
        refine AW.condT (b := decide (v106 > x107.lsn)) rfl c109_ ?_
        refine AW.sub (Sub.bool 73 (b := decide (v106 > x107.lsn)) rfl c109_) ?_
        refine AW.sub (S' := mk 149 [1000] [(0, .ptr 1000 0 0), (2, .i v29), (3, .i 0), (4, .mref 45), (5, .i v31), (6, .ptr 6 0 0), (49, .ref 25002 0 r2.length), (50, .i (r2.length : Int)), (51, .i v31), (73, .b true)] [(6, some (.box [.i x103.kind, .i x103.tx, .i x103.page, .i x103.before, .i x103.after])), (45, some (.mp (.int .i64) (encM MKey.ik vB m30))), (1000, some (.box [.ref 25000 0 l28.length, .ref 25001 0 a0.disk.length, .ref 25002 0 r2.length, .i a0.flushed, .i a0.lastID, .ref 25005 0 (([] : List Int).length), .ref 25006 0 l4.length])), (25000, R78 l28), (25001, R78 a0.disk), (25002, R80 r2), (25005, R3 ([] : List Int)), (25006, R3 l4)]) (by simp; exact Sub.table (by simp) (by simp)) ?_
        replace h := bsome h; obtain ⟨v110, hv110, h⟩ := h
        have hv110 := chkI_some hv110
        refine AW.seqT 12 (by kernel_rfl) (by kernel_rfl) fun K hK => ?_; simp [hv110, hx107k, hx107a, hx107b]; refine hK _ _ ?_; clear hK K
        refine Chain.sub (S' := mk 149 [1000] [(0, .ptr 1000 0 0), (2, .i v29), (3, .i 0), (4, .mref 45), (49, .ref 25002 0 r2.length), (50, .i (r2.length : Int)), (51, .i v31), (84, .agg [.i x103.after, .i v110]), (85, .ptr 25000 k108 0)] [(45, some (.mp (.int .i64) (encM MKey.ik vB m30))), (1000, some (.box [.ref 25000 0 l28.length, .ref 25001 0 a0.disk.length, .ref 25002 0 r2.length, .i a0.flushed, .i a0.lastID, .ref 25005 0 (([] : List Int).length), .ref 25006 0 l4.length])), (25000, R78 l28), (25001, R78 a0.disk), (25002, R80 r2), (25005, R3 ([] : List Int)), (25006, R3 l4)]) Sub.tt ?_
        replace h := lsome h; obtain ⟨l111, gl111, h⟩ := h
        obtain ⟨hl111, hl111n⟩ := setI_some cS78 gl111 hx107k
        replace hl111 : (l28.map cS78).set k108 [.lit (.int .i64 x103.after), .lit (.int .i64 v110)] = l111.map cS78 := hl111
        clear gl111
        refine Chain.runK [] 1 fun K hK => ?_; simp [hx107, hl111]; refine hK _ _ ?_; clear hK K
        refine Chain.sub (S' := mk 149 [1000] [(0, .ptr 1000 0 0), (2, .i v29), (3, .i 0), (4, .mref 45), (49, .ref 25002 0 r2.length), (50, .i (r2.length : Int)), (51, .i v31)] [(45, some (.mp (.int .i64) (encM MKey.ik vB m30))), (1000, some (.box [.ref 25000 0 l111.length, .ref 25001 0 a0.disk.length, .ref 25002 0 r2.length, .i a0.flushed, .i a0.lastID, .ref 25005 0 (([] : List Int).length), .ref 25006 0 l4.length])), (25000, R78 l111), (25001, R78 a0.disk), (25002, R80 r2), (25005, R3 ([] : List Int)), (25006, R3 l4)]) (Sub.table (by simp) (by simp [hl111n])) ?_
        refine Chain.nil ?_
        refine AW.region ?_
        replace h := bsome h; obtain ⟨v112, hv112, h⟩ := h
        have hv112 := chkI_some hv112
        refine Chain.runK [] 3 fun K hK => ?_; simp [hv112]; refine hK _ _ ?_; clear hK K
        refine Chain.sub (S' := mk 149 [1000] [(0, .ptr 1000 0 0), (2, .i v112), (3, .i 0), (4, .mref 45), (49, .ref 25002 0 r2.length), (50, .i (r2.length : Int)), (51, .i v31)] [(45, some (.mp (.int .i64) (encM MKey.ik vB m30))), (1000, some (.box [.ref 25000 0 l111.length, .ref 25001 0 a0.disk.length, .ref 25002 0 r2.length, .i a0.flushed, .i a0.lastID, .ref 25005 0 (([] : List Int).length), .ref 25006 0 l4.length])), (25000, R78 l111), (25001, R78 a0.disk), (25002, R80 r2), (25005, R3 ([] : List Int)), (25006, R3 l4)]) Sub.tt ?_
        refine Chain.nil ?_
        cases h
        refine blockQ.normal ?_
        refine PostN.next ?_
        exact Sub.tt
       ·have c109_ : decide (v106 > x107.lsn) = false := decide_eq_false c109
        refine AW.condF (b := decide (v106 > x107.lsn)) rfl c109_ ?_
        refine AW.sub (Sub.bool 73 (b := decide (v106 > x107.lsn)) rfl c109_) ?_
        refine AW.sub (S' := mk 149 [1000] [(0, .ptr 1000 0 0), (2, .i v29), (3, .i 0), (4, .mref 45), (5, .i v31), (6, .ptr 6 0 0), (49, .ref 25002 0 r2.length), (50, .i (r2.length : Int)), (51, .i v31), (73, .b false)] [(6, some (.box [.i x103.kind, .i x103.tx, .i x103.page, .i x103.before, .i x103.after])), (45, some (.mp (.int .i64) (encM MKey.ik vB m30))), (1000, some (.box [.ref 25000 0 l28.length, .ref 25001 0 a0.disk.length, .ref 25002 0 r2.length, .i a0.flushed, .i a0.lastID, .ref 25005 0 (([] : List Int).length), .ref 25006 0 l4.length])), (25000, R78 l28), (25001, R78 a0.disk), (25002, R80 r2), (25005, R3 ([] : List Int)), (25006, R3 l4)]) (by simp; exact Sub.table (by simp) (by simp)) ?_
        refine AW.skip ?_
        cases h
        refine blockQ.normal ?_
        refine PostN.next ?_
        exact Sub.tt
     ·rintro ⟨l100, v101, m102⟩ h
      dsimp only at h ⊢
      refine AW.region ?_
      replace h := bsome h; obtain ⟨v113, hv113, h⟩ := h
      have hv113 := chkI_some hv113
      refine Chain.runK [] 2 fun K hK => ?_; simp [hv113]; refine hK _ _ ?_; clear hK K
      refine Chain.sub (S' := mk 149 [1000] [(0, .ptr 1000 0 0), (2, .i v101), (3, .i 0), (4, .mref 45), (49, .ref 25002 0 r2.length), (50, .i (r2.length : Int)), (51, .i v113)] [(45, some (.mp (.int .i64) (encM MKey.ik vB m102))), (1000, some (.box [.ref 25000 0 l100.length, .ref 25001 0 a0.disk.length, .ref 25002 0 r2.length, .i a0.flushed, .i a0.lastID, .ref 25005 0 (([] : List Int).length), .ref 25006 0 l4.length])), (25000, R78 l100), (25001, R78 a0.disk), (25002, R80 r2), (25005, R3 ([] : List Int)), (25006, R3 l4)]) Sub.tt ?_
      refine Chain.nil ?_
      cases h
      refine PostI.next ?_
      exact Sub.tt
    ·have c89_ : decide (v31 < (r2.length : Int)) = false := decide_eq_false c89
     refine AW.condF (b := decide (v31 < (r2.length : Int))) rfl c89_ ?_
     refine AW.sub (Sub.bool 52 (b := decide (v31 < (r2.length : Int))) rfl c89_) ?_
     refine AW.sub (S' := mk 149 [1000] [(0, .ptr 1000 0 0), (2, .i v29), (3, .i 0), (4, .mref 45), (49, .ref 25002 0 r2.length), (50, .i (r2.length : Int)), (51, .i v31), (52, .b false)] [(45, some (.mp (.int .i64) (encM MKey.ik vB m30))), (1000, some (.box [.ref 25000 0 l28.length, .ref 25001 0 a0.disk.length, .ref 25002 0 r2.length, .i a0.flushed, .i a0.lastID, .ref 25005 0 (([] : List Int).length), .ref 25006 0 l4.length])), (25000, R78 l28), (25001, R78 a0.disk), (25002, R80 r2), (25005, R3 ([] : List Int)), (25006, R3 l4)]) (by simp; exact Sub.table (by simp) (by simp)) ?_
     refine AW.exit ?_
     cases h
     refine thenQ_pass (by simp) ?_
     refine PostI.out (by simp) ?_
     rintro rfl
     refine blockQ.hit ?_
     refine PostN.next ?_
     exact Sub.tt
   ·rintro ⟨l86, v87, m88⟩ h
    dsimp only at h ⊢
    refine thenQ_normal ?_
    refine AW.seqR ?_
    refine Chain.runK [] 6 fun K hK => ?_; simp; refine hK _ _ ?_; clear hK K
    refine Chain.sub (S' := mk 149 [1000] [(0, .ptr 1000 0 0), (2, .i v87), (3, .i 0), (4, .mref 45), (7, .i (r2.length : Int))] [(45, some (.mp (.int .i64) (encM MKey.ik vB m88))), (1000, some (.box [.ref 25000 0 l86.length, .ref 25001 0 a0.disk.length, .ref 25002 0 r2.length, .i a0.flushed, .i a0.lastID, .ref 25005 0 (([] : List Int).length), .ref 25006 0 l4.length])), (25000, R78 l86), (25001, R78 a0.disk), (25002, R80 r2), (25005, R3 ([] : List Int)), (25006, R3 l4)]) Sub.tt ?_
    refine Chain.nil ?_
    refine AW.seq ?_
    refine AW.seqR ?_
    refine Chain.runK [] 4 fun K hK => ?_; simp; refine hK _ _ ?_; clear hK K
    refine Chain.sub (S' := mk 149 [1000] [(0, .ptr 1000 0 0), (2, .i v87), (3, .i 0), (4, .mref 45), (7, .i (r2.length : Int)), (97, .ref 25002 0 r2.length)] [(45, some (.mp (.int .i64) (encM MKey.ik vB m88))), (1000, some (.box [.ref 25000 0 l86.length, .ref 25001 0 a0.disk.length, .ref 25002 0 r2.length, .i a0.flushed, .i a0.lastID, .ref 25005 0 (([] : List Int).length), .ref 25006 0 l4.length])), (25000, R78 l86), (25001, R78 a0.disk), (25002, R80 r2), (25005, R3 ([] : List Int)), (25006, R3 l4)]) Sub.tt ?_
    replace h := bsome h; obtain ⟨r114, hr114, h⟩ := h
    refine Chain.callOF (d := 98) (p44 N r2 r114 hr114) (by simp) rfl rfl (by simp <;> rfl) (by simp <;> rfl) ent44 (by simp) (fun r h => flat_of_ren r h) (flat_map (by simp) _) ?_
    refine Chain.sub (S' := mk 149 [1000] [(0, .ptr 1000 0 0), (2, .i v87), (3, .i 0), (4, .mref 45), (7, .i (r2.length : Int)), (97, .ref 25002 0 r2.length), (98, .ref 98 0 r114.length)] [(45, some (.mp (.int .i64) (encM MKey.ik vB m88))), (98, R80 r114), (1000, some (.box [.ref 25000 0 l86.length, .ref 25001 0 a0.disk.length, .ref 25002 0 r2.length, .i a0.flushed, .i a0.lastID, .ref 25005 0 (([] : List Int).length), .ref 25006 0 l4.length])), (25000, R78 l86), (25001, R78 a0.disk), (25002, R80 r2), (25005, R3 ([] : List Int)), (25006, R3 l4)]) (by simp; exact Sub.table (by simp) (by simp)) ?_
    refine Chain.runK [] 2 fun K hK => ?_; simp; refine hK _ _ ?_; clear hK K
    refine Chain.sub (S' := mk 149 [1000] [(0, .ptr 1000 0 0), (2, .i v87), (3, .i 0), (4, .mref 45), (7, .i (r2.length : Int)), (98, .ref 98 0 r114.length), (99, .i (r114.length : Int)), (100, .i 0)] [(45, some (.mp (.int .i64) (encM MKey.ik vB m88))), (98, R80 r114), (1000, some (.box [.ref 25000 0 l86.length, .ref 25001 0 a0.disk.length, .ref 25002 0 r2.length, .i a0.flushed, .i a0.lastID, .ref 25005 0 (([] : List Int).length), .ref 25006 0 l4.length])), (25000, R78 l86), (25001, R78 a0.disk), (25002, R80 r2), (25005, R3 ([] : List Int)), (25006, R3 l4)]) Sub.tt ?_
    refine Chain.nil ?_
    refine AW.lastN (fun ((l159, l160, l161, v162, v163, l164, l165) : ((List S78) × (List S78) × (List S80) × Int × Int × (List Int) × (List Int))) => mk 149 [1000] [(0, .ptr 1000 0 0), (2, .i v87), (3, .i 0), (7, .i (r2.length : Int))] [(1000, some (.box [.ref 25000 0 l159.length, .ref 25001 0 l160.length, .ref 25002 0 l161.length, .i v162, .i v163, .ref 25005 0 l164.length, .ref 25006 0 l165.length])), (25000, R78 l159), (25001, R78 l160), (25002, R80 l161), (25005, R3 l164), (25006, R3 l165)]) h ?_ ?_ <;> clear h
    ·intro o h
     refine AW.block ?_
     refine AW.iter (fun ((l123, l124, l125, v126, v127, l128, l129, m130, v131) : ((List S78) × (List S78) × (List S80) × Int × Int × (List Int) × (List Int) × (List (Int × Bool)) × Int)) => mk 149 [1000] [(0, .ptr 1000 0 0), (2, .i v87), (3, .i 0), (4, .mref 45), (7, .i (r2.length : Int)), (98, .ref 98 0 r114.length), (99, .i (r114.length : Int)), (100, .i v131)] [(45, some (.mp (.int .i64) (encM MKey.ik vB m130))), (98, R80 r114), (1000, some (.box [.ref 25000 0 l123.length, .ref 25001 0 l124.length, .ref 25002 0 l125.length, .i v126, .i v127, .ref 25005 0 l128.length, .ref 25006 0 l129.length])), (25000, R78 l123), (25001, R78 l124), (25002, R80 l125), (25005, R3 l128), (25006, R3 l129)]) h Sub.tt ?_
     clear h
     rintro ⟨l123, l124, l125, v126, v127, l128, l129, m130, v131⟩ x h
     dsimp only at h ⊢
     refine AW.seqR ?_
     refine Chain.runK [] 1 fun K hK => ?_; simp; refine hK _ _ ?_; clear hK K
     refine Chain.sub (S' := mk 149 [1000] [(0, .ptr 1000 0 0), (2, .i v87), (3, .i 0), (4, .mref 45), (7, .i (r2.length : Int)), (98, .ref 98 0 r114.length), (99, .i (r114.length : Int)), (100, .i v131), (101, .b (decide (v131 < (r114.length : Int))))] [(45, some (.mp (.int .i64) (encM MKey.ik vB m130))), (98, R80 r114), (1000, some (.box [.ref 25000 0 l123.length, .ref 25001 0 l124.length, .ref 25002 0 l125.length, .i v126, .i v127, .ref 25005 0 l128.length, .ref 25006 0 l129.length])), (25000, R78 l123), (25001, R78 l124), (25002, R80 l125), (25005, R3 l128), (25006, R3 l129)]) Sub.tt ?_
     refine Chain.nil ?_
     refine AW.seq ?_
     replace h := isome h; rcases h with ⟨c166, h⟩ | ⟨c166, h⟩
     ·have c166_ : decide (v131 < (r114.length : Int)) = true := decide_eq_true c166
      refine AW.condT (b := decide (v131 < (r114.length : Int))) rfl c166_ ?_
      refine AW.sub (Sub.bool 101 (b := decide (v131 < (r114.length : Int))) rfl c166_) ?_
      refine AW.sub (S' := mk 149 [1000] [(0, .ptr 1000 0 0), (2, .i v87), (3, .i 0), (4, .mref 45), (7, .i (r2.length : Int)), (98, .ref 98 0 r114.length), (99, .i (r114.length : Int)), (100, .i v131), (101, .b true)] [(45, some (.mp (.int .i64) (encM MKey.ik vB m130))), (98, R80 r114), (1000, some (.box [.ref 25000 0 l123.length, .ref 25001 0 l124.length, .ref 25002 0 l125.length, .i v126, .i v127, .ref 25005 0 l128.length, .ref 25006 0 l129.length])), (25000, R78 l123), (25001, R78 l124), (25002, R80 l125), (25005, R3 l128), (25006, R3 l129)]) (by simp; exact Sub.table (by simp) (by simp)) ?_
      refine AW.skip ?_
      refine thenQ_normal ?_
      refine AW.seq ?_
      refine AW.block ?_
      refine AW.seqR ?_
      replace h := bsome h; obtain ⟨x167, hx167, h⟩ := h
      obtain ⟨k168, hx167k, hx167, hx167a, hx167b⟩ := idx_some hx167
      refine Chain.runK [] 4 fun K hK => ?_; simp [hx167, hx167k, hx167a, hx167b]; refine hK _ _ ?_; clear hK K
      refine Chain.sub (S' := mk 149 [1000] [(0, .ptr 1000 0 0), (2, .i v87), (3, .i 0), (4, .mref 45), (7, .i (r2.length : Int)), (9, .ptr 9 0 0), (98, .ref 98 0 r114.length), (99, .i (r114.length : Int)), (100, .i v131)] [(9, some (.box [.i x167.kind, .i x167.tx, .i x167.page, .i x167.before, .i x167.after])), (45, some (.mp (.int .i64) (encM MKey.ik vB m130))), (98, R80 r114), (1000, some (.box [.ref 25000 0 l123.length, .ref 25001 0 l124.length, .ref 25002 0 l125.length, .i v126, .i v127, .ref 25005 0 l128.length, .ref 25006 0 l129.length])), (25000, R78 l123), (25001, R78 l124), (25002, R80 l125), (25005, R3 l128), (25006, R3 l129)]) Sub.tt ?_
      refine Chain.nil ?_
      refine AW.seqR ?_
      refine Chain.runK [] 3 fun K hK => ?_; simp; refine hK _ _ ?_; clear hK K
      refine Chain.sub (S' := mk 149 [1000] [(0, .ptr 1000 0 0), (2, .i v87), (3, .i 0), (4, .mref 45), (7, .i (r2.length : Int)), (9, .ptr 9 0 0), (98, .ref 98 0 r114.length), (99, .i (r114.length : Int)), (100, .i v131), (104, .mref 45), (106, .i x167.tx)] [(9, some (.box [.i x167.kind, .i x167.tx, .i x167.page, .i x167.before, .i x167.after])), (45, some (.mp (.int .i64) (encM MKey.ik vB m130))), (98, R80 r114), (1000, some (.box [.ref 25000 0 l123.length, .ref 25001 0 l124.length, .ref 25002 0 l125.length, .i v126, .i v127, .ref 25005 0 l128.length, .ref 25006 0 l129.length])), (25000, R78 l123), (25001, R78 l124), (25002, R80 l125), (25005, R3 l128), (25006, R3 l129)]) Sub.tt ?_
      replace h := lsome h; obtain ⟨v169, hv169, h⟩ := h
      refine Chain.lookE (vf := vB) ik_inj m130 x167.tx false (by simp) rfl ty93 rfl ty3 ty4 rfl rfl rfl rfl rfl rfl rfl ?_
      refine Chain.sub (S' := mk 149 [1000] [(0, .ptr 1000 0 0), (2, .i v87), (3, .i 0), (4, .mref 45), (7, .i (r2.length : Int)), (9, .ptr 9 0 0), (98, .ref 98 0 r114.length), (99, .i (r114.length : Int)), (100, .i v131), (104, .mref 45), (106, .i x167.tx), (107, .b v169)] [(9, some (.box [.i x167.kind, .i x167.tx, .i x167.page, .i x167.before, .i x167.after])), (45, some (.mp (.int .i64) (encM MKey.ik vB m130))), (98, R80 r114), (1000, some (.box [.ref 25000 0 l123.length, .ref 25001 0 l124.length, .ref 25002 0 l125.length, .i v126, .i v127, .ref 25005 0 l128.length, .ref 25006 0 l129.length])), (25000, R78 l123), (25001, R78 l124), (25002, R80 l125), (25005, R3 l128), (25006, R3 l129)]) (by simp [vB, hv169]; exact Sub.table (by simp) (by simp)) ?_
      refine Chain.runK [] 1 fun K hK => ?_; simp; refine hK _ _ ?_; clear hK K
      refine Chain.sub (S' := mk 149 [1000] [(0, .ptr 1000 0 0), (2, .i v87), (3, .i 0), (4, .mref 45), (7, .i (r2.length : Int)), (9, .ptr 9 0 0), (98, .ref 98 0 r114.length), (99, .i (r114.length : Int)), (100, .i v131), (108, .b (!v169))] [(9, some (.box [.i x167.kind, .i x167.tx, .i x167.page, .i x167.before, .i x167.after])), (45, some (.mp (.int .i64) (encM MKey.ik vB m130))), (98, R80 r114), (1000, some (.box [.ref 25000 0 l123.length, .ref 25001 0 l124.length, .ref 25002 0 l125.length, .i v126, .i v127, .ref 25005 0 l128.length, .ref 25006 0 l129.length])), (25000, R78 l123), (25001, R78 l124), (25002, R80 l125), (25005, R3 l128), (25006, R3 l129)]) Sub.tt ?_
      refine Chain.nil ?_
      replace h := isome h; rcases h with ⟨c170, h⟩ | ⟨c170, h⟩
      ·have c170_ : (!v169) = true := c170
       refine AW.condT (b := (!v169)) rfl c170_ ?_
       refine AW.sub (Sub.bool 108 (b := (!v169)) rfl c170_) ?_
       refine AW.sub (S' := mk 149 [1000] [(0, .ptr 1000 0 0), (2, .i v87), (3, .i 0), (4, .mref 45), (7, .i (r2.length : Int)), (9, .ptr 9 0 0), (98, .ref 98 0 r114.length), (99, .i (r114.length : Int)), (100, .i v131), (108, .b true)] [(9, some (.box [.i x167.kind, .i x167.tx, .i x167.page, .i x167.before, .i x167.after])), (45, some (.mp (.int .i64) (encM MKey.ik vB m130))), (98, R80 r114), (1000, some (.box [.ref 25000 0 l123.length, .ref 25001 0 l124.length, .ref 25002 0 l125.length, .i v126, .i v127, .ref 25005 0 l128.length, .ref 25006 0 l129.length])), (25000, R78 l123), (25001, R78 l124), (25002, R80 l125), (25005, R3 l128), (25006, R3 l129)]) (by simp; exact Sub.table (by simp) (by simp)) ?_
       refine AW.seqR ?_
       refine Chain.runK [] 3 fun K hK => ?_; simp; refine hK _ _ ?_; clear hK K
       refine Chain.sub (S' := mk 149 [1000] [(0, .ptr 1000 0 0), (2, .i v87), (3, .i 0), (4, .mref 45), (7, .i (r2.length : Int)), (9, .ptr 9 0 0), (98, .ref 98 0 r114.length), (99, .i (r114.length : Int)), (100, .i v131), (109, .mref 45), (111, .i x167.tx)] [(9, some (.box [.i x167.kind, .i x167.tx, .i x167.page, .i x167.before, .i x167.after])), (45, some (.mp (.int .i64) (encM MKey.ik vB m130))), (98, R80 r114), (1000, some (.box [.ref 25000 0 l123.length, .ref 25001 0 l124.length, .ref 25002 0 l125.length, .i v126, .i v127, .ref 25005 0 l128.length, .ref 25006 0 l129.length])), (25000, R78 l123), (25001, R78 l124), (25002, R80 l125), (25005, R3 l128), (25006, R3 l129)]) Sub.tt ?_
       refine Chain.msetE (vf := vB) ik_inj m130 x167.tx true (by simp) (.inl rfl) ty93 rfl ty3 rfl rfl rfl rfl rfl rfl rfl ?_
       refine Chain.sub (S' := mk 149 [1000] [(0, .ptr 1000 0 0), (2, .i v87), (3, .i 0), (4, .mref 45), (7, .i (r2.length : Int)), (9, .ptr 9 0 0), (98, .ref 98 0 r114.length), (99, .i (r114.length : Int)), (100, .i v131), (109, .mref 45), (111, .i x167.tx)] [(9, some (.box [.i x167.kind, .i x167.tx, .i x167.page, .i x167.before, .i x167.after])), (45, some (.mp (.int .i64) (encM MKey.ik vB (mput m130 x167.tx true)))), (98, R80 r114), (1000, some (.box [.ref 25000 0 l123.length, .ref 25001 0 l124.length, .ref 25002 0 l125.length, .i v126, .i v127, .ref 25005 0 l128.length, .ref 25006 0 l129.length])), (25000, R78 l123), (25001, R78 l124), (25002, R80 l125), (25005, R3 l128), (25006, R3 l129)]) (by simp; exact Sub.table (by simp) (by simp)) ?_
       refine Chain.nil ?_
       refine AW.seqR ?_
       refine Chain.runK [] 3 fun K hK => ?_; simp; refine hK _ _ ?_; clear hK K
       refine Chain.sub (S' := mk 149 [1000] [(0, .ptr 1000 0 0), (2, .i v87), (3, .i 0), (4, .mref 45), (7, .i (r2.length : Int)), (9, .ptr 9 0 0), (98, .ref 98 0 r114.length), (99, .i (r114.length : Int)), (100, .i v131), (112, .ptr 1000 0 0), (114, .i x167.tx)] [(9, some (.box [.i x167.kind, .i x167.tx, .i x167.page, .i x167.before, .i x167.after])), (45, some (.mp (.int .i64) (encM MKey.ik vB (mput m130 x167.tx true)))), (98, R80 r114), (1000, some (.box [.ref 25000 0 l123.length, .ref 25001 0 l124.length, .ref 25002 0 l125.length, .i v126, .i v127, .ref 25005 0 l128.length, .ref 25006 0 l129.length])), (25000, R78 l123), (25001, R78 l124), (25002, R80 l125), (25005, R3 l128), (25006, R3 l129)]) Sub.tt ?_
       replace h := bsome h; obtain ⟨r171, hr171, h⟩ := h
       refine Chain.callF (p41 N (S74.mk l123 l124 l125 v126 v127 l128 l129) x167.tx r171 hr171) [(1000, 1000), (25000, 25000), (25001, 25001), (25002, 25002), (25005, 25005), (25006, 25006)] [1000] [(1000, 1000), (25000, 25000), (25001, 25001), (25002, 25002), (25005, 25005), (25006, 25006)] [(1000, (.box [.ref 25000 0 r171.buffer.length, .ref 25001 0 r171.disk.length, .ref 25002 0 r171.log.length, .i r171.flushed, .i r171.lastID, .ref 25005 0 r171.active.length, .ref 25006 0 r171.writer.length])), (25000, (.arr 78 2 (r171.buffer.map cS78))), (25001, (.arr 78 2 (r171.disk.map cS78))), (25002, (.arr 80 5 (r171.log.map cS80))), (25005, (.arr 3 1 (r171.active.map (cI .i64)))), (25006, (.arr 3 1 (r171.writer.map (cI .i64))))] (.tup []) (by simp) rfl (by simp <;> rfl) (by simp) (by simp) (by simp) (by simp) (by simp) ent41 (by simp) (by simp) (by simp) (by simp) (by simp) (by simp) ?_
       refine Chain.sub (S' := mk 149 [1000] [(0, .ptr 1000 0 0), (2, .i v87), (3, .i 0), (4, .mref 45), (7, .i (r2.length : Int)), (9, .ptr 9 0 0), (98, .ref 98 0 r114.length), (99, .i (r114.length : Int)), (100, .i v131), (112, .ptr 1000 0 0), (114, .i x167.tx), (115, .tup [])] [(9, some (.box [.i x167.kind, .i x167.tx, .i x167.page, .i x167.before, .i x167.after])), (45, some (.mp (.int .i64) (encM MKey.ik vB (mput m130 x167.tx true)))), (98, R80 r114), (1000, some (.box [.ref 25000 0 r171.buffer.length, .ref 25001 0 r171.disk.length, .ref 25002 0 r171.log.length, .i r171.flushed, .i r171.lastID, .ref 25005 0 r171.active.length, .ref 25006 0 r171.writer.length])), (25000, R78 r171.buffer), (25001, R78 r171.disk), (25002, R80 r171.log), (25005, R3 r171.active), (25006, R3 r171.writer)]) (by simp; exact Sub.table (by simp) (by simp)) ?_
       refine Chain.nil ?_
       refine AW.region ?_
       refine Chain.runK [] 4 fun K hK => ?_; simp; refine hK _ _ ?_; clear hK K
       refine Chain.sub (S' := mk 149 [1000] [(0, .ptr 1000 0 0), (2, .i v87), (3, .i 0), (4, .mref 45), (7, .i (r2.length : Int)), (98, .ref 98 0 r114.length), (99, .i (r114.length : Int)), (100, .i v131), (116, .ptr 1000 0 0), (119, .agg [.i 3, .i x167.tx, .i 0, .i 0, .i 0])] [(45, some (.mp (.int .i64) (encM MKey.ik vB (mput m130 x167.tx true)))), (98, R80 r114), (1000, some (.box [.ref 25000 0 r171.buffer.length, .ref 25001 0 r171.disk.length, .ref 25002 0 r171.log.length, .i r171.flushed, .i r171.lastID, .ref 25005 0 r171.active.length, .ref 25006 0 r171.writer.length])), (25000, R78 r171.buffer), (25001, R78 r171.disk), (25002, R80 r171.log), (25005, R3 r171.active), (25006, R3 r171.writer)]) Sub.tt ?_
       replace h := bsome h; obtain ⟨r172, hr172, h⟩ := h
       refine Chain.callF (p25 N r171 (S80.mk 3 x167.tx 0 0 0) r172 hr172) [(1000, 1000), (25000, 25000), (25001, 25001), (25002, 25002), (25005, 25005), (25006, 25006)] [1000] [(1000, 1000), (25000, 25000), (25001, 25001), (25002, 25002), (25005, 25005), (25006, 25006)] [(1000, (.box [.ref 25000 0 r172.buffer.length, .ref 25001 0 r172.disk.length, .ref 25002 0 r172.log.length, .i r172.flushed, .i r172.lastID, .ref 25005 0 r172.active.length, .ref 25006 0 r172.writer.length])), (25000, (.arr 78 2 (r172.buffer.map cS78))), (25001, (.arr 78 2 (r172.disk.map cS78))), (25002, (.arr 80 5 (r172.log.map cS80))), (25005, (.arr 3 1 (r172.active.map (cI .i64)))), (25006, (.arr 3 1 (r172.writer.map (cI .i64))))] (.tup []) (by simp) rfl (by simp <;> rfl) (by simp) (by simp) (by simp) (by simp) (by simp) ent25 (by simp) (by simp) (by simp) (by simp) (by simp) (by simp) ?_
       refine Chain.sub (S' := mk 149 [1000] [(0, .ptr 1000 0 0), (2, .i v87), (3, .i 0), (4, .mref 45), (7, .i (r2.length : Int)), (98, .ref 98 0 r114.length), (99, .i (r114.length : Int)), (100, .i v131), (116, .ptr 1000 0 0), (119, .agg [.i 3, .i x167.tx, .i 0, .i 0, .i 0]), (120, .tup [])] [(45, some (.mp (.int .i64) (encM MKey.ik vB (mput m130 x167.tx true)))), (98, R80 r114), (1000, some (.box [.ref 25000 0 r172.buffer.length, .ref 25001 0 r172.disk.length, .ref 25002 0 r172.log.length, .i r172.flushed, .i r172.lastID, .ref 25005 0 r172.active.length, .ref 25006 0 r172.writer.length])), (25000, R78 r172.buffer), (25001, R78 r172.disk), (25002, R80 r172.log), (25005, R3 r172.active), (25006, R3 r172.writer)]) (by simp; exact Sub.table (by simp) (by simp)) ?_
       refine Chain.nil ?_
       refine blockQ.normal ?_
       refine thenQ_normal ?_
       refine AW.region ?_
       replace h := bsome h; obtain ⟨v173, hv173, h⟩ := h
       have hv173 := chkI_some hv173
       refine Chain.runK [] 2 fun K hK => ?_; simp [hv173]; refine hK _ _ ?_; clear hK K
       refine Chain.sub (S' := mk 149 [1000] [(0, .ptr 1000 0 0), (2, .i v87), (3, .i 0), (4, .mref 45), (7, .i (r2.length : Int)), (98, .ref 98 0 r114.length), (99, .i (r114.length : Int)), (100, .i v173)] [(45, some (.mp (.int .i64) (encM MKey.ik vB (mput m130 x167.tx true)))), (98, R80 r114), (1000, some (.box [.ref 25000 0 r172.buffer.length, .ref 25001 0 r172.disk.length, .ref 25002 0 r172.log.length, .i r172.flushed, .i r172.lastID, .ref 25005 0 r172.active.length, .ref 25006 0 r172.writer.length])), (25000, R78 r172.buffer), (25001, R78 r172.disk), (25002, R80 r172.log), (25005, R3 r172.active), (25006, R3 r172.writer)]) Sub.tt ?_
       refine Chain.nil ?_
       cases h
       refine PostI.next ?_
       exact Sub.tt
      ·have c170_ : (!v169) = false := Bool.eq_false_iff.2 c170
       refine AW.condF (b := (!v169)) rfl c170_ ?_
       refine AW.sub (Sub.bool 108 (b := (!v169)) rfl c170_) ?_
       refine AW.sub (S' := mk 149 [1000] [(0, .ptr 1000 0 0), (2, .i v87), (3, .i 0), (4, .mref 45), (7, .i (r2.length : Int)), (9, .ptr 9 0 0), (98, .ref 98 0 r114.length), (99, .i (r114.length : Int)), (100, .i v131), (108, .b false)] [(9, some (.box [.i x167.kind, .i x167.tx, .i x167.page, .i x167.before, .i x167.after])), (45, some (.mp (.int .i64) (encM MKey.ik vB m130))), (98, R80 r114), (1000, some (.box [.ref 25000 0 l123.length, .ref 25001 0 l124.length, .ref 25002 0 l125.length, .i v126, .i v127, .ref 25005 0 l128.length, .ref 25006 0 l129.length])), (25000, R78 l123), (25001, R78 l124), (25002, R80 l125), (25005, R3 l128), (25006, R3 l129)]) (by simp; exact Sub.table (by simp) (by simp)) ?_
       refine AW.skip ?_
       refine blockQ.normal ?_
       refine thenQ_normal ?_
       refine AW.region ?_
       replace h := bsome h; obtain ⟨v174, hv174, h⟩ := h
       have hv174 := chkI_some hv174
       refine Chain.runK [] 2 fun K hK => ?_; simp [hv174]; refine hK _ _ ?_; clear hK K
       refine Chain.sub (S' := mk 149 [1000] [(0, .ptr 1000 0 0), (2, .i v87), (3, .i 0), (4, .mref 45), (7, .i (r2.length : Int)), (98, .ref 98 0 r114.length), (99, .i (r114.length : Int)), (100, .i v174)] [(45, some (.mp (.int .i64) (encM MKey.ik vB m130))), (98, R80 r114), (1000, some (.box [.ref 25000 0 l123.length, .ref 25001 0 l124.length, .ref 25002 0 l125.length, .i v126, .i v127, .ref 25005 0 l128.length, .ref 25006 0 l129.length])), (25000, R78 l123), (25001, R78 l124), (25002, R80 l125), (25005, R3 l128), (25006, R3 l129)]) Sub.tt ?_
       refine Chain.nil ?_
       cases h
       refine PostI.next ?_
       exact Sub.tt
     ·have c166_ : decide (v131 < (r114.length : Int)) = false := decide_eq_false c166
      refine AW.condF (b := decide (v131 < (r114.length : Int))) rfl c166_ ?_
      refine AW.sub (Sub.bool 101 (b := decide (v131 < (r114.length : Int))) rfl c166_) ?_
      refine AW.sub (S' := mk 149 [1000] [(0, .ptr 1000 0 0), (2, .i v87), (3, .i 0), (4, .mref 45), (7, .i (r2.length : Int)), (98, .ref 98 0 r114.length), (99, .i (r114.length : Int)), (100, .i v131), (101, .b false)] [(45, some (.mp (.int .i64) (encM MKey.ik vB m130))), (98, R80 r114), (1000, some (.box [.ref 25000 0 l123.length, .ref 25001 0 l124.length, .ref 25002 0 l125.length, .i v126, .i v127, .ref 25005 0 l128.length, .ref 25006 0 l129.length])), (25000, R78 l123), (25001, R78 l124), (25002, R80 l125), (25005, R3 l128), (25006, R3 l129)]) (by simp; exact Sub.table (by simp) (by simp)) ?_
      refine AW.exit ?_
      cases h
      refine thenQ_pass (by simp) ?_
      refine PostI.out (by simp) ?_
      rintro rfl
      refine blockQ.hit ?_
      refine PostN.next ?_
      exact Sub.tt
    ·rintro ⟨l159, l160, l161, v162, v163, l164, l165⟩ h
     dsimp only at h ⊢
     refine thenQ_normal ?_
     refine AW.seq ?_
     refine AW.seqR ?_
     replace h := bsome h; obtain ⟨n175, gn175, h⟩ := h
     obtain ⟨hn175a, hn175⟩ := natI_some gn175
     clear gn175
     refine Chain.runK [] 8 fun K hK => ?_; simp [hn175, hn175a]; refine hK _ _ ?_; clear hK K
     refine Chain.sub (S' := mk 149 [1000] [(0, .ptr 1000 0 0), (2, .i v87), (3, .i 0), (127, .ref 25002 n175 (l161.length - n175)), (128, .i (((l161.length - n175) : Nat) : Int)), (129, .i 0)] [(1000, some (.box [.ref 25000 0 l159.length, .ref 25001 0 l160.length, .ref 25002 0 l161.length, .i v162, .i v163, .ref 25005 0 l164.length, .ref 25006 0 l165.length])), (25000, R78 l159), (25001, R78 l160), (25002, R80 l161), (25005, R3 l164), (25006, R3 l165)]) (Sub.table (by simp) (by simp)) ?_
     refine Chain.nil ?_
     refine AW.lastN (fun (v200 : Int) => mk 149 [1000] [(0, .ptr 1000 0 0), (2, .i v87), (3, .i v200)] [(1000, some (.box [.ref 25000 0 l159.length, .ref 25001 0 l160.length, .ref 25002 0 l161.length, .i v162, .i v163, .ref 25005 0 l164.length, .ref 25006 0 l165.length])), (25000, R78 l159), (25001, R78 l160), (25002, R80 l161), (25005, R3 l164), (25006, R3 l165)]) h ?_ ?_ <;> clear h
     ·intro o h
      refine AW.block ?_
      refine AW.iter (fun ((v182, v183) : (Int × Int)) => mk 149 [1000] [(0, .ptr 1000 0 0), (2, .i v87), (3, .i v182), (127, .ref 25002 n175 (l161.length - n175)), (128, .i (((l161.length - n175) : Nat) : Int)), (129, .i v183)] [(1000, some (.box [.ref 25000 0 l159.length, .ref 25001 0 l160.length, .ref 25002 0 l161.length, .i v162, .i v163, .ref 25005 0 l164.length, .ref 25006 0 l165.length])), (25000, R78 l159), (25001, R78 l160), (25002, R80 l161), (25005, R3 l164), (25006, R3 l165)]) h Sub.tt ?_
      clear h
      rintro ⟨v182, v183⟩ x h
      dsimp only at h ⊢
      refine AW.seqR ?_
      refine Chain.runK [] 1 fun K hK => ?_; simp; refine hK _ _ ?_; clear hK K
      refine Chain.sub (S' := mk 149 [1000] [(0, .ptr 1000 0 0), (2, .i v87), (3, .i v182), (127, .ref 25002 n175 (l161.length - n175)), (128, .i (((l161.length - n175) : Nat) : Int)), (129, .i v183), (130, .b (decide (v183 < (((l161.length - n175) : Nat) : Int))))] [(1000, some (.box [.ref 25000 0 l159.length, .ref 25001 0 l160.length, .ref 25002 0 l161.length, .i v162, .i v163, .ref 25005 0 l164.length, .ref 25006 0 l165.length])), (25000, R78 l159), (25001, R78 l160), (25002, R80 l161), (25005, R3 l164), (25006, R3 l165)]) Sub.tt ?_
      refine Chain.nil ?_
      refine AW.seq ?_
      replace h := isome h; rcases h with ⟨c201, h⟩ | ⟨c201, h⟩
      ·have c201_ : decide (v183 < (((l161.length - n175) : Nat) : Int)) = true := decide_eq_true c201
       refine AW.condT (b := decide (v183 < (((l161.length - n175) : Nat) : Int))) rfl c201_ ?_
       refine AW.sub (Sub.bool 130 (b := decide (v183 < (((l161.length - n175) : Nat) : Int))) rfl c201_) ?_
       refine AW.sub (S' := mk 149 [1000] [(0, .ptr 1000 0 0), (2, .i v87), (3, .i v182), (127, .ref 25002 n175 (l161.length - n175)), (128, .i (((l161.length - n175) : Nat) : Int)), (129, .i v183), (130, .b true)] [(1000, some (.box [.ref 25000 0 l159.length, .ref 25001 0 l160.length, .ref 25002 0 l161.length, .i v162, .i v163, .ref 25005 0 l164.length, .ref 25006 0 l165.length])), (25000, R78 l159), (25001, R78 l160), (25002, R80 l161), (25005, R3 l164), (25006, R3 l165)]) (by simp; exact Sub.table (by simp) (by simp)) ?_
       refine AW.skip ?_
       refine thenQ_normal ?_
       refine AW.seq ?_
       refine AW.block ?_
       refine AW.seqR ?_
       replace h := bsome h; obtain ⟨x202, hx202, h⟩ := h
       obtain ⟨k203, hx202k, hx202, hx202a, hx202b⟩ := idx_some hx202
       rw [List.getElem?_drop] at hx202
       rw [List.length_drop] at hx202b
       refine Chain.runK [] 4 fun K hK => ?_; simp [hx202, hx202k, hx202a, hx202b]; refine hK _ _ ?_; clear hK K
       refine Chain.sub (S' := mk 149 [1000] [(0, .ptr 1000 0 0), (2, .i v87), (3, .i v182), (11, .ptr 11 0 0), (127, .ref 25002 n175 (l161.length - n175)), (128, .i (((l161.length - n175) : Nat) : Int)), (129, .i v183)] [(11, some (.box [.i x202.kind, .i x202.tx, .i x202.page, .i x202.before, .i x202.after])), (1000, some (.box [.ref 25000 0 l159.length, .ref 25001 0 l160.length, .ref 25002 0 l161.length, .i v162, .i v163, .ref 25005 0 l164.length, .ref 25006 0 l165.length])), (25000, R78 l159), (25001, R78 l160), (25002, R80 l161), (25005, R3 l164), (25006, R3 l165)]) Sub.tt ?_
       refine Chain.nil ?_
       refine AW.seqR ?_
       refine Chain.runK [] 3 fun K hK => ?_; simp; refine hK _ _ ?_; clear hK K
       refine Chain.sub (S' := mk 149 [1000] [(0, .ptr 1000 0 0), (2, .i v87), (3, .i v182), (127, .ref 25002 n175 (l161.length - n175)), (128, .i (((l161.length - n175) : Nat) : Int)), (129, .i v183), (135, .b (x202.kind == 2))] [(1000, some (.box [.ref 25000 0 l159.length, .ref 25001 0 l160.length, .ref 25002 0 l161.length, .i v162, .i v163, .ref 25005 0 l164.length, .ref 25006 0 l165.length])), (25000, R78 l159), (25001, R78 l160), (25002, R80 l161), (25005, R3 l164), (25006, R3 l165)]) Sub.tt ?_
       refine Chain.nil ?_
       replace h := isome h; rcases h with ⟨c204, h⟩ | ⟨c204, h⟩
       ·have c204_ : (x202.kind == 2) = true := c204
        refine AW.condT (b := (x202.kind == 2)) rfl c204_ ?_
        refine AW.sub (Sub.bool 135 (b := (x202.kind == 2)) rfl c204_) ?_
        refine AW.sub (S' := mk 149 [1000] [(0, .ptr 1000 0 0), (2, .i v87), (3, .i v182), (127, .ref 25002 n175 (l161.length - n175)), (128, .i (((l161.length - n175) : Nat) : Int)), (129, .i v183), (135, .b true)] [(1000, some (.box [.ref 25000 0 l159.length, .ref 25001 0 l160.length, .ref 25002 0 l161.length, .i v162, .i v163, .ref 25005 0 l164.length, .ref 25006 0 l165.length])), (25000, R78 l159), (25001, R78 l160), (25002, R80 l161), (25005, R3 l164), (25006, R3 l165)]) (by simp; exact Sub.table (by simp) (by simp)) ?_
        refine AW.region ?_
        replace h := bsome h; obtain ⟨v205, hv205, h⟩ := h
        have hv205 := chkI_some hv205
        refine Chain.runK [] 3 fun K hK => ?_; simp [hv205]; refine hK _ _ ?_; clear hK K
        refine Chain.sub (S' := mk 149 [1000] [(0, .ptr 1000 0 0), (2, .i v87), (3, .i v205), (127, .ref 25002 n175 (l161.length - n175)), (128, .i (((l161.length - n175) : Nat) : Int)), (129, .i v183)] [(1000, some (.box [.ref 25000 0 l159.length, .ref 25001 0 l160.length, .ref 25002 0 l161.length, .i v162, .i v163, .ref 25005 0 l164.length, .ref 25006 0 l165.length])), (25000, R78 l159), (25001, R78 l160), (25002, R80 l161), (25005, R3 l164), (25006, R3 l165)]) Sub.tt ?_
        refine Chain.nil ?_
        refine blockQ.normal ?_
        refine thenQ_normal ?_
        refine AW.region ?_
        replace h := bsome h; obtain ⟨v206, hv206, h⟩ := h
        have hv206 := chkI_some hv206
        refine Chain.runK [] 2 fun K hK => ?_; simp [hv206]; refine hK _ _ ?_; clear hK K
        refine Chain.sub (S' := mk 149 [1000] [(0, .ptr 1000 0 0), (2, .i v87), (3, .i v205), (127, .ref 25002 n175 (l161.length - n175)), (128, .i (((l161.length - n175) : Nat) : Int)), (129, .i v206)] [(1000, some (.box [.ref 25000 0 l159.length, .ref 25001 0 l160.length, .ref 25002 0 l161.length, .i v162, .i v163, .ref 25005 0 l164.length, .ref 25006 0 l165.length])), (25000, R78 l159), (25001, R78 l160), (25002, R80 l161), (25005, R3 l164), (25006, R3 l165)]) Sub.tt ?_
        refine Chain.nil ?_
        cases h
        refine PostI.next ?_
        exact Sub.tt
       ·have c204_ : (x202.kind == 2) = false := Bool.eq_false_iff.2 c204
        refine AW.condF (b := (x202.kind == 2)) rfl c204_ ?_
        refine AW.sub (Sub.bool 135 (b := (x202.kind == 2)) rfl c204_) ?_
        refine AW.sub (S' := mk 149 [1000] [(0, .ptr 1000 0 0), (2, .i v87), (3, .i v182), (127, .ref 25002 n175 (l161.length - n175)), (128, .i (((l161.length - n175) : Nat) : Int)), (129, .i v183), (135, .b false)] [(1000, some (.box [.ref 25000 0 l159.length, .ref 25001 0 l160.length, .ref 25002 0 l161.length, .i v162, .i v163, .ref 25005 0 l164.length, .ref 25006 0 l165.length])), (25000, R78 l159), (25001, R78 l160), (25002, R80 l161), (25005, R3 l164), (25006, R3 l165)]) (by simp; exact Sub.table (by simp) (by simp)) ?_
        refine AW.skip ?_
        refine blockQ.normal ?_
        refine thenQ_normal ?_
        refine AW.region ?_
        replace h := bsome h; obtain ⟨v207, hv207, h⟩ := h
        have hv207 := chkI_some hv207
        refine Chain.runK [] 2 fun K hK => ?_; simp [hv207]; refine hK _ _ ?_; clear hK K
        refine Chain.sub (S' := mk 149 [1000] [(0, .ptr 1000 0 0), (2, .i v87), (3, .i v182), (127, .ref 25002 n175 (l161.length - n175)), (128, .i (((l161.length - n175) : Nat) : Int)), (129, .i v207)] [(1000, some (.box [.ref 25000 0 l159.length, .ref 25001 0 l160.length, .ref 25002 0 l161.length, .i v162, .i v163, .ref 25005 0 l164.length, .ref 25006 0 l165.length])), (25000, R78 l159), (25001, R78 l160), (25002, R80 l161), (25005, R3 l164), (25006, R3 l165)]) Sub.tt ?_
        refine Chain.nil ?_
        cases h
        refine PostI.next ?_
        exact Sub.tt
      ·have c201_ : decide (v183 < (((l161.length - n175) : Nat) : Int)) = false := decide_eq_false c201
       refine AW.condF (b := decide (v183 < (((l161.length - n175) : Nat) : Int))) rfl c201_ ?_
       refine AW.sub (Sub.bool 130 (b := decide (v183 < (((l161.length - n175) : Nat) : Int))) rfl c201_) ?_
       refine AW.sub (S' := mk 149 [1000] [(0, .ptr 1000 0 0), (2, .i v87), (3, .i v182), (127, .ref 25002 n175 (l161.length - n175)), (128, .i (((l161.length - n175) : Nat) : Int)), (129, .i v183), (130, .b false)] [(1000, some (.box [.ref 25000 0 l159.length, .ref 25001 0 l160.length, .ref 25002 0 l161.length, .i v162, .i v163, .ref 25005 0 l164.length, .ref 25006 0 l165.length])), (25000, R78 l159), (25001, R78 l160), (25002, R80 l161), (25005, R3 l164), (25006, R3 l165)]) (by simp; exact Sub.table (by simp) (by simp)) ?_
       refine AW.exit ?_
       cases h
       refine thenQ_pass (by simp) ?_
       refine PostI.out (by simp) ?_
       rintro rfl
       refine blockQ.hit ?_
       refine PostN.next ?_
       exact Sub.tt
     ·rintro v200 h
      refine thenQ_normal ?_
      refine AW.seqR ?_
      refine Chain.runK [] 9 fun K hK => ?_; simp; refine hK _ _ ?_; clear hK K
      refine Chain.sub (S' := mk 149 [1000] [(2, .i v87), (3, .i v200)] [(1000, some (.box [.ref 25000 0 l159.length, .ref 25001 0 l160.length, .ref 25002 0 l161.length, .i (l161.length : Int), .i v163, .ref 25005 0 l164.length, .ref 25006 0 l165.length])), (25000, R78 l159), (25001, R78 l160), (25002, R80 l161), (25005, R3 l164), (25006, R3 l165)]) Sub.tt ?_
      refine Chain.nil ?_
      refine AW.seqR ?_
      refine Chain.runK [] 4 fun K hK => ?_; simp; refine hK _ _ ?_; clear hK K
      refine Chain.sub (S' := mk 149 [1000] [(2, .i v87), (3, .i v200)] [(1000, some (.box [.ref 25000 0 l159.length, .ref 25001 0 l160.length, .ref 25002 0 l161.length, .i (l161.length : Int), .i v163, .ref 25005 0 l164.length, .ref 25006 0 l165.length])), (25000, R78 l159), (25001, R78 l160), (25002, R80 l161), (25005, R3 l164), (25006, R3 l165)]) Sub.tt ?_
      refine Chain.nil ?_
      refine AW.ret ?_
      cases h
      exact FinF.ret (by simp) (by simp)

end Go.Proofs.Ytiikoldaocnilaa
