/- Functions of the program as functional programs; the code computes them. -/
import Derived.Test.YtiikoldaocnilaaRc8
namespace Go.Proofs.Ytiikoldaocnilaa
open Go.Ab Go.Rp
attribute [-simp] List.all_eq_true Array.all_toList Array.all_eq_true

/-- (*stemma/stemref5.Engine).Crash -/
def d37 (N : Nat) (a0 : S56) : Option (S56 × Int × Int) :=
 (natI a0.Flushed a0.Log.length).bind fun n1 =>
 letv (a0.Log.take n1) fun l2 =>
 (appL 40 ([] : List S84) l2).bind fun _l3 =>
 (appL 8 ([] : List Int) a0.Disk).bind fun _l4 =>
 Option.bind (α := ((List Int) × Int × (List (Int × Bool)) × (List Int))) (
  iterN (σ := ((List Int) × Int × (List (Int × Bool)) × (List Int) × Int)) (ρ := ((List Int) × Int × (List (Int × Bool)) × (List Int))) (fun ((l24, v25, m26, l27, v28) : ((List Int) × Int × (List (Int × Bool)) × (List Int) × Int)) =>
   if v28 < (l2.length : Int) then (
    (idx l2 v28).bind fun x79 =>
    (d24 N l27 x79.Tx).bind fun r81 =>
    Option.bind (α := List Int) (
     if (!r81) = true then (
      (appL 8 l27 [x79.Tx]).bind fun _l86 =>
      some (l27 ++ [x79.Tx])
     ) else
     some l27
    ) fun (l84 : List Int) =>
    if (x79.Kind == 3) then (
     (chkI (v28 + 1)).bind fun v88 =>
     some (.inl (l24, v25, (mput m26 x79.Tx true), l84, v88))
    ) else
    (chkI (v28 + 1)).bind fun v89 =>
    (idx a0.DiskLSN x79.Page).bind fun x90 =>
    if v89 > x90 then (
     (idx l24 x79.Page).bind fun _x93 =>
     letv (setI l24 x79.Page x79.After) fun l94 =>
     (chkI (v25 + 1)).bind fun v95 =>
     (chkI (v28 + 1)).bind fun v96 =>
     some (.inl (l94, v95, m26, l84, v96))
    ) else
    (chkI (v28 + 1)).bind fun v97 =>
    some (.inl (l24, v25, m26, l84, v97))
   ) else
   some (.inr (l24, v25, m26, l27))
  ) N ((([] : List Int) ++ a0.Disk), 0, ([] : List (Int × Bool)), ([] : List Int), 0)
 ) fun ((l74, v75, m76, l77) : ((List Int) × Int × (List (Int × Bool)) × (List Int))) =>
 Option.bind (α := ((List Int) × (List Int) × (List Int) × (List S84) × Int × Int × (List Int) × Int)) (
  iterN (σ := ((List Int) × (List Int) × (List Int) × (List S84) × Int × Int × (List Int) × Int × Int)) (ρ := ((List Int) × (List Int) × (List Int) × (List S84) × Int × Int × (List Int) × Int)) (fun ((l106, l107, l108, l109, v110, v111, l112, v113, v114) : ((List Int) × (List Int) × (List Int) × (List S84) × Int × Int × (List Int) × Int × Int)) =>
   if v114 < (l77.length : Int) then (
    (idx l77 v114).bind fun x151 =>
    letv ((mget m76 x151).getD false) fun v153 =>
    if (!v153) = true then (
     (d30 N (S56.mk l106 l107 l108 l109 v110 v111 l112) x151).bind fun r155 =>
     (chkI (v113 + r155.2)).bind fun v156 =>
     (chkI (v114 + 1)).bind fun v157 =>
     some (.inl (r155.1.Buffer, r155.1.Disk, r155.1.DiskLSN, r155.1.Log, r155.1.Flushed, r155.1.LastID, r155.1.Active, v156, v157))
    ) else
    (chkI (v114 + 1)).bind fun v158 =>
    some (.inl (l106, l107, l108, l109, v110, v111, l112, v113, v158))
   ) else
   some (.inr (l106, l107, l108, l109, v110, v111, l112, v113))
  ) N (l74, a0.Disk, a0.DiskLSN, l2, a0.Flushed, a0.LastID, ([] : List Int), 0, 0)
 ) fun ((l142, l143, l144, l145, _v146, v147, l148, v149) : ((List Int) × (List Int) × (List Int) × (List S84) × Int × Int × (List Int) × Int)) =>
 some ((S56.mk l142 l143 l144 l145 (l145.length : Int) v147 l148), v75, v149)
set_option maxRecDepth 100000 in
set_option maxHeartbeats 4000000 in
theorem p37 (N : Nat) (a0 : S56) (r : (S56 × Int × Int)) (h : d37 N a0 = some r) : FunM Try.prog 37 [.ptr 1000 0 0] [(1000, some (.box [.ref 25000 0 a0.Buffer.length, .ref 25001 0 a0.Disk.length, .ref 25002 0 a0.DiskLSN.length, .ref 25003 0 a0.Log.length, .i a0.Flushed, .i a0.LastID, .ref 25006 0 a0.Active.length])), (25000, R3 a0.Buffer), (25001, R3 a0.Disk), (25002, R3 a0.DiskLSN), (25003, R84 a0.Log), (25006, R3 a0.Active)] [1000] (.tup [.i r.2.1, .i r.2.2]) ([(1000, (.box [.ref 25000 0 r.1.Buffer.length, .ref 25001 0 r.1.Disk.length, .ref 25002 0 r.1.DiskLSN.length, .ref 25003 0 r.1.Log.length, .i r.1.Flushed, .i r.1.LastID, .ref 25006 0 r.1.Active.length])), (25000, (.arr 3 1 (r.1.Buffer.map (cI .i64)))), (25001, (.arr 3 1 (r.1.Disk.map (cI .i64)))), (25002, (.arr 3 1 (r.1.DiskLSN.map (cI .i64)))), (25003, (.arr 84 5 (r.1.Log.map cS84))), (25006, (.arr 3 1 (r.1.Active.map (cI .i64))))]) := by
 unfold d37 at h
 refine FunM.enter 112 [(0, .ptr 1000 0 0)] Try.func37 rfl (of_decide_eq_true rfl) rfl rfl ?_
 refine AW.seqR ?_
 refine Chain.runK [] 2 fun K hK => ?_; simp; refine hK _ _ ?_; clear hK K
 refine Chain.sub (S' := mk 112 [1000] [(0, .ptr 1000 0 0), (2, .i 0), (3, .i 0)] [(1000, some (.box [.ref 25000 0 a0.Buffer.length, .ref 25001 0 a0.Disk.length, .ref 25002 0 a0.DiskLSN.length, .ref 25003 0 a0.Log.length, .i a0.Flushed, .i a0.LastID, .ref 25006 0 a0.Active.length])), (25000, R3 a0.Buffer), (25001, R3 a0.Disk), (25002, R3 a0.DiskLSN), (25003, R84 a0.Log), (25006, R3 a0.Active)]) Sub.tt ?_
 refine Chain.nil ?_
 replace h := bsome h; obtain ⟨n1, gn1, h⟩ := h
 obtain ⟨hn1a, hn1⟩ := natI_some gn1
 clear gn1
 replace h := lsome h; obtain ⟨l2, gl2, h⟩ := h
 have hl2 : (a0.Log.map cS84).take n1 = l2.map cS84 := by rw [← gl2]; simp
 have hl2l : l2.length = n1 := by rw [← gl2, List.length_take]; omega
 clear gl2
 replace h := bsome h; obtain ⟨l3, hl3, h⟩ := h
 obtain ⟨hl3a, hl3⟩ := appL_some hl3
 subst hl3
 try simp only [List.length_nil, Nat.zero_add] at hl3a
 refine AW.seqAnyS [[], [], [], [2], [2, 3], [2, 3, 4], [], [6], [6, 7], [6, 7, 8], [2, 3, 4, 5, 6, 7, 8, 9], [1, 2, 3, 4, 5, 6, 7, 8, 9, 10], [0, 1, 2, 3, 4, 5, 6, 7, 8, 9, 10, 11], [0, 1, 2, 3, 4, 5, 6, 7, 8, 9, 10, 11, 12], [0, 1, 2, 3, 4, 5, 6, 7, 8, 9, 10, 11, 12, 13]] (fun (b : Nat → Bool) => mk 112 [1000] [(0, .ptr 1000 0 0), (2, .i 0), (3, .i 0), (10, (if b 0 then .ptr 1000 0 0 else .junk)), (11, (if b 11 then .junk else (if b 1 then .ref 11 0 (([] : List S84).length) else .junk))), (12, (if b 2 then .ptr 1000 0 0 else .junk)), (13, (if b 3 then .ptr 1000 0 0 else .junk)), (14, (if b 4 then .ptr 1000 0 3 else .junk)), (15, (if b 5 then .ref 25003 0 a0.Log.length else .junk)), (16, (if b 6 then .ptr 1000 0 0 else .junk)), (17, (if b 7 then .ptr 1000 0 0 else .junk)), (18, (if b 8 then .ptr 1000 0 4 else .junk)), (19, (if b 9 then .i a0.Flushed else .junk)), (20, (if b 10 then .ref 25003 0 n1 else .junk)), (21, (if b 11 then .ref 11 0 l2.length else .junk)), (22, (if b 12 then .ptr 1000 0 0 else .junk)), (23, (if b 13 then .ptr 1000 0 3 else .junk))] [(11, (if b 11 then R84 l2 else (if b 1 then R84 ([] : List S84) else none))), (1000, (if b 14 then some (.box [.ref 25000 0 a0.Buffer.length, .ref 25001 0 a0.Disk.length, .ref 25002 0 a0.DiskLSN.length, .ref 11 0 l2.length, .i a0.Flushed, .i a0.LastID, .ref 25006 0 a0.Active.length]) else some (.box [.ref 25000 0 a0.Buffer.length, .ref 25001 0 a0.Disk.length, .ref 25002 0 a0.DiskLSN.length, .ref 25003 0 a0.Log.length, .i a0.Flushed, .i a0.LastID, .ref 25006 0 a0.Active.length]))), (25000, R3 a0.Buffer), (25001, R3 a0.Disk), (25002, R3 a0.DiskLSN), (25003, R84 a0.Log), (25006, R3 a0.Active)]) (mk 112 [1000] [(0, .ptr 1000 0 0), (2, .i 0), (3, .i 0)] [(11, R84 l2), (1000, some (.box [.ref 25000 0 a0.Buffer.length, .ref 25001 0 a0.Disk.length, .ref 25002 0 a0.DiskLSN.length, .ref 11 0 l2.length, .i a0.Flushed, .i a0.LastID, .ref 25006 0 a0.Active.length])), (25000, R3 a0.Buffer), (25001, R3 a0.Disk), (25002, R3 a0.DiskLSN), (25006, R3 a0.Active)]) (by kernel_rfl) (by kernel_rfl) Sub.tt (Steps.cons ?_ (Steps.cons ?_ (Steps.cons ?_ (Steps.cons ?_ (Steps.cons ?_ (Steps.cons ?_ (Steps.cons ?_ (Steps.cons ?_ (Steps.cons ?_ (Steps.cons ?_ (Steps.cons ?_ (Steps.cons ?_ (Steps.cons ?_ (Steps.cons ?_ (Steps.cons ?_ (Steps.nil)))))))))))))))) ?_ ?_
 ·intro b h0 ha hd
  have f12 : b 12 = false := hd 12 (by decide)
  have f13 : b 13 = false := hd 13 (by decide)
  have f14 : b 14 = false := hd 14 (by decide)
  refine Chain.runK [] 1 fun K hK => ?_; simp [h0, f12, f13, f14]; refine hK _ _ ?_; clear hK K
  exact Chain.nil (Sub.table (by simp [f12, f13]) (by simp [f14]))
 ·intro b h0 ha hd
  have f11 : b 11 = false := hd 11 (by decide)
  have f12 : b 12 = false := hd 12 (by decide)
  have f13 : b 13 = false := hd 13 (by decide)
  have f14 : b 14 = false := hd 14 (by decide)
  refine Chain.runK [] 1 fun K hK => ?_; simp [h0, f11, f12, f13, f14]; refine hK _ _ ?_; clear hK K
  exact Chain.nil (Sub.table (by simp [f11, f12, f13]) (by simp [f11, f14]))
 ·intro b h0 ha hd
  have f3 : b 3 = false := hd 3 (by decide)
  have f4 : b 4 = false := hd 4 (by decide)
  have f5 : b 5 = false := hd 5 (by decide)
  have f10 : b 10 = false := hd 10 (by decide)
  have f11 : b 11 = false := hd 11 (by decide)
  have f12 : b 12 = false := hd 12 (by decide)
  have f13 : b 13 = false := hd 13 (by decide)
  have f14 : b 14 = false := hd 14 (by decide)
  refine Chain.runK [] 1 fun K hK => ?_; simp [h0, f3, f4, f5, f10, f11, f12, f13, f14]; refine hK _ _ ?_; clear hK K
  exact Chain.nil (Sub.table (by simp [f3, f4, f5, f10, f11, f12, f13]) (by simp [f11, f14]))
 ·intro b h0 ha hd
  have t2 : b 2 = true := ha 2 (by decide)
  have f4 : b 4 = false := hd 4 (by decide)
  have f5 : b 5 = false := hd 5 (by decide)
  have f10 : b 10 = false := hd 10 (by decide)
  have f11 : b 11 = false := hd 11 (by decide)
  have f12 : b 12 = false := hd 12 (by decide)
  have f13 : b 13 = false := hd 13 (by decide)
  have f14 : b 14 = false := hd 14 (by decide)
  refine Chain.runK [] 1 fun K hK => ?_; simp [h0, t2, f4, f5, f10, f11, f12, f13, f14]; refine hK _ _ ?_; clear hK K
  exact Chain.nil (Sub.table (by simp [t2, f4, f5, f10, f11, f12, f13]) (by simp [f11, f14]))
 ·intro b h0 ha hd
  have t2 : b 2 = true := ha 2 (by decide)
  have t3 : b 3 = true := ha 3 (by decide)
  have f5 : b 5 = false := hd 5 (by decide)
  have f10 : b 10 = false := hd 10 (by decide)
  have f11 : b 11 = false := hd 11 (by decide)
  have f12 : b 12 = false := hd 12 (by decide)
  have f13 : b 13 = false := hd 13 (by decide)
  have f14 : b 14 = false := hd 14 (by decide)
  refine Chain.runK [] 1 fun K hK => ?_; simp [h0, t2, t3, f5, f10, f11, f12, f13, f14]; refine hK _ _ ?_; clear hK K
  exact Chain.nil (Sub.table (by simp [t2, t3, f5, f10, f11, f12, f13]) (by simp [f11, f14]))
 ·intro b h0 ha hd
  have t2 : b 2 = true := ha 2 (by decide)
  have t3 : b 3 = true := ha 3 (by decide)
  have t4 : b 4 = true := ha 4 (by decide)
  have f10 : b 10 = false := hd 10 (by decide)
  have f11 : b 11 = false := hd 11 (by decide)
  have f12 : b 12 = false := hd 12 (by decide)
  have f13 : b 13 = false := hd 13 (by decide)
  have f14 : b 14 = false := hd 14 (by decide)
  refine Chain.runK [] 1 fun K hK => ?_; simp [h0, t2, t3, t4, f10, f11, f12, f13, f14]; refine hK _ _ ?_; clear hK K
  exact Chain.nil (Sub.table (by simp [t2, t3, t4, f10, f11, f12, f13]) (by simp [f11, f14]))
 ·intro b h0 ha hd
  have f7 : b 7 = false := hd 7 (by decide)
  have f8 : b 8 = false := hd 8 (by decide)
  have f9 : b 9 = false := hd 9 (by decide)
  have f10 : b 10 = false := hd 10 (by decide)
  have f11 : b 11 = false := hd 11 (by decide)
  have f12 : b 12 = false := hd 12 (by decide)
  have f13 : b 13 = false := hd 13 (by decide)
  have f14 : b 14 = false := hd 14 (by decide)
  refine Chain.runK [] 1 fun K hK => ?_; simp [h0, f7, f8, f9, f10, f11, f12, f13, f14]; refine hK _ _ ?_; clear hK K
  exact Chain.nil (Sub.table (by simp [f7, f8, f9, f10, f11, f12, f13]) (by simp [f11, f14]))
 ·intro b h0 ha hd
  have t6 : b 6 = true := ha 6 (by decide)
  have f8 : b 8 = false := hd 8 (by decide)
  have f9 : b 9 = false := hd 9 (by decide)
  have f10 : b 10 = false := hd 10 (by decide)
  have f11 : b 11 = false := hd 11 (by decide)
  have f12 : b 12 = false := hd 12 (by decide)
  have f13 : b 13 = false := hd 13 (by decide)
  have f14 : b 14 = false := hd 14 (by decide)
  refine Chain.runK [] 1 fun K hK => ?_; simp [h0, t6, f8, f9, f10, f11, f12, f13, f14]; refine hK _ _ ?_; clear hK K
  exact Chain.nil (Sub.table (by simp [t6, f8, f9, f10, f11, f12, f13]) (by simp [f11, f14]))
 ·intro b h0 ha hd
  have t6 : b 6 = true := ha 6 (by decide)
  have t7 : b 7 = true := ha 7 (by decide)
  have f9 : b 9 = false := hd 9 (by decide)
  have f10 : b 10 = false := hd 10 (by decide)
  have f11 : b 11 = false := hd 11 (by decide)
  have f12 : b 12 = false := hd 12 (by decide)
  have f13 : b 13 = false := hd 13 (by decide)
  have f14 : b 14 = false := hd 14 (by decide)
  refine Chain.runK [] 1 fun K hK => ?_; simp [h0, t6, t7, f9, f10, f11, f12, f13, f14]; refine hK _ _ ?_; clear hK K
  exact Chain.nil (Sub.table (by simp [t6, t7, f9, f10, f11, f12, f13]) (by simp [f11, f14]))
 ·intro b h0 ha hd
  have t6 : b 6 = true := ha 6 (by decide)
  have t7 : b 7 = true := ha 7 (by decide)
  have t8 : b 8 = true := ha 8 (by decide)
  have f10 : b 10 = false := hd 10 (by decide)
  have f11 : b 11 = false := hd 11 (by decide)
  have f12 : b 12 = false := hd 12 (by decide)
  have f13 : b 13 = false := hd 13 (by decide)
  have f14 : b 14 = false := hd 14 (by decide)
  refine Chain.runK [] 1 fun K hK => ?_; simp [h0, t6, t7, t8, f10, f11, f12, f13, f14]; refine hK _ _ ?_; clear hK K
  exact Chain.nil (Sub.table (by simp [t6, t7, t8, f10, f11, f12, f13]) (by simp [f11, f14]))
 ·intro b h0 ha hd
  have t2 : b 2 = true := ha 2 (by decide)
  have t3 : b 3 = true := ha 3 (by decide)
  have t4 : b 4 = true := ha 4 (by decide)
  have t5 : b 5 = true := ha 5 (by decide)
  have t6 : b 6 = true := ha 6 (by decide)
  have t7 : b 7 = true := ha 7 (by decide)
  have t8 : b 8 = true := ha 8 (by decide)
  have t9 : b 9 = true := ha 9 (by decide)
  have f11 : b 11 = false := hd 11 (by decide)
  have f12 : b 12 = false := hd 12 (by decide)
  have f13 : b 13 = false := hd 13 (by decide)
  have f14 : b 14 = false := hd 14 (by decide)
  refine Chain.runK [] 1 fun K hK => ?_; simp [h0, t2, t3, t4, t5, t6, t7, t8, t9, f11, f12, f13, f14, hn1, hn1a]; refine hK _ _ ?_; clear hK K
  exact Chain.nil (Sub.table (by simp [t2, t3, t4, t5, t6, t7, t8, t9, f11, f12, f13, hn1a]) (by simp [f11, f14, hn1a]))
 ·intro b h0 ha hd
  have t1 : b 1 = true := ha 1 (by decide)
  have t2 : b 2 = true := ha 2 (by decide)
  have t3 : b 3 = true := ha 3 (by decide)
  have t4 : b 4 = true := ha 4 (by decide)
  have t5 : b 5 = true := ha 5 (by decide)
  have t6 : b 6 = true := ha 6 (by decide)
  have t7 : b 7 = true := ha 7 (by decide)
  have t8 : b 8 = true := ha 8 (by decide)
  have t9 : b 9 = true := ha 9 (by decide)
  have t10 : b 10 = true := ha 10 (by decide)
  have f12 : b 12 = false := hd 12 (by decide)
  have f13 : b 13 = false := hd 13 (by decide)
  have f14 : b 14 = false := hd 14 (by decide)
  refine Chain.runK [] 1 fun K hK => ?_; simp [h0, t1, t2, t3, t4, t5, t6, t7, t8, t9, t10, f12, f13, f14, hn1, hl2, hl3a]; refine hK _ _ ?_; clear hK K
  exact Chain.nil (Sub.table (by simp [t2, t3, t4, t5, t6, t7, t8, t9, t10, f12, f13]) (by simp [f14]))
 ·intro b h0 ha hd
  have t0 : b 0 = true := ha 0 (by decide)
  have t1 : b 1 = true := ha 1 (by decide)
  have t2 : b 2 = true := ha 2 (by decide)
  have t3 : b 3 = true := ha 3 (by decide)
  have t4 : b 4 = true := ha 4 (by decide)
  have t5 : b 5 = true := ha 5 (by decide)
  have t6 : b 6 = true := ha 6 (by decide)
  have t7 : b 7 = true := ha 7 (by decide)
  have t8 : b 8 = true := ha 8 (by decide)
  have t9 : b 9 = true := ha 9 (by decide)
  have t10 : b 10 = true := ha 10 (by decide)
  have t11 : b 11 = true := ha 11 (by decide)
  have f13 : b 13 = false := hd 13 (by decide)
  have f14 : b 14 = false := hd 14 (by decide)
  refine Chain.runK [] 1 fun K hK => ?_; simp [h0, t0, t2, t3, t4, t5, t6, t7, t8, t9, t10, t11, f13, f14]; refine hK _ _ ?_; clear hK K
  exact Chain.nil (Sub.table (by simp [t0, t2, t3, t4, t5, t6, t7, t8, t9, t10, t11, f13]) (by simp [t11, f14]))
 ·intro b h0 ha hd
  have t0 : b 0 = true := ha 0 (by decide)
  have t1 : b 1 = true := ha 1 (by decide)
  have t2 : b 2 = true := ha 2 (by decide)
  have t3 : b 3 = true := ha 3 (by decide)
  have t4 : b 4 = true := ha 4 (by decide)
  have t5 : b 5 = true := ha 5 (by decide)
  have t6 : b 6 = true := ha 6 (by decide)
  have t7 : b 7 = true := ha 7 (by decide)
  have t8 : b 8 = true := ha 8 (by decide)
  have t9 : b 9 = true := ha 9 (by decide)
  have t10 : b 10 = true := ha 10 (by decide)
  have t11 : b 11 = true := ha 11 (by decide)
  have t12 : b 12 = true := ha 12 (by decide)
  have f14 : b 14 = false := hd 14 (by decide)
  refine Chain.runK [] 1 fun K hK => ?_; simp [h0, t0, t2, t3, t4, t5, t6, t7, t8, t9, t10, t11, t12, f14]; refine hK _ _ ?_; clear hK K
  exact Chain.nil (Sub.table (by simp [t0, t2, t3, t4, t5, t6, t7, t8, t9, t10, t11, t12]) (by simp [t11, f14]))
 ·intro b h0 ha hd
  have t0 : b 0 = true := ha 0 (by decide)
  have t1 : b 1 = true := ha 1 (by decide)
  have t2 : b 2 = true := ha 2 (by decide)
  have t3 : b 3 = true := ha 3 (by decide)
  have t4 : b 4 = true := ha 4 (by decide)
  have t5 : b 5 = true := ha 5 (by decide)
  have t6 : b 6 = true := ha 6 (by decide)
  have t7 : b 7 = true := ha 7 (by decide)
  have t8 : b 8 = true := ha 8 (by decide)
  have t9 : b 9 = true := ha 9 (by decide)
  have t10 : b 10 = true := ha 10 (by decide)
  have t11 : b 11 = true := ha 11 (by decide)
  have t12 : b 12 = true := ha 12 (by decide)
  have t13 : b 13 = true := ha 13 (by decide)
  refine Chain.runK [] 1 fun K hK => ?_; simp [h0, t0, t2, t3, t4, t5, t6, t7, t8, t9, t10, t11, t12, t13]; refine hK _ _ ?_; clear hK K
  exact Chain.nil (Sub.table (by simp [t0, t2, t3, t4, t5, t6, t7, t8, t9, t10, t11, t12, t13]) (by simp [t11]))
 ·intro b hb
  have t0 := hb 0 (by decide)
  have t1 := hb 1 (by decide)
  have t2 := hb 2 (by decide)
  have t3 := hb 3 (by decide)
  have t4 := hb 4 (by decide)
  have t5 := hb 5 (by decide)
  have t6 := hb 6 (by decide)
  have t7 := hb 7 (by decide)
  have t8 := hb 8 (by decide)
  have t9 := hb 9 (by decide)
  have t10 := hb 10 (by decide)
  have t11 := hb 11 (by decide)
  have t12 := hb 12 (by decide)
  have t13 := hb 13 (by decide)
  have t14 := hb 14 (by decide)
  exact Sub.table (by simp [t0, t2, t3, t4, t5, t6, t7, t8, t9, t10, t11, t12, t13]) (by simp [t11, t14])
 ·skip
  refine AW.seqR ?_
  refine Chain.runK [] 1 fun K hK => ?_; simp; refine hK _ _ ?_; clear hK K
  refine Chain.sub (S' := mk 112 [1000] [(0, .ptr 1000 0 0), (2, .i 0), (3, .i 0), (24, .ptr 1000 0 0)] [(11, R84 l2), (1000, some (.box [.ref 25000 0 a0.Buffer.length, .ref 25001 0 a0.Disk.length, .ref 25002 0 a0.DiskLSN.length, .ref 11 0 l2.length, .i a0.Flushed, .i a0.LastID, .ref 25006 0 a0.Active.length])), (25000, R3 a0.Buffer), (25001, R3 a0.Disk), (25002, R3 a0.DiskLSN), (25006, R3 a0.Active)]) Sub.tt ?_
  refine Chain.sub (S' := mk 112 [1000] [(0, .ptr 1000 0 0), (2, .i 0), (3, .i 0), (24, .ptr 1000 0 0)] [(1000, some (.box [.ref 25000 0 a0.Buffer.length, .ref 25001 0 a0.Disk.length, .ref 25002 0 a0.DiskLSN.length, .ref 25003 0 l2.length, .i a0.Flushed, .i a0.LastID, .ref 25006 0 a0.Active.length])), (25000, R3 a0.Buffer), (25001, R3 a0.Disk), (25002, R3 a0.DiskLSN), (25003, R84 l2), (25006, R3 a0.Active)]) (Sub.names [(11, 25003), (1000, 1000), (25000, 25000), (25001, 25001), (25002, 25002), (25006, 25006)] (by simp) (by simp) (by simp [back]) (by simp [V.rnm, lk2]) (by simp [back, Blk.rnm, V.rnm, rnmL, lk2])) ?_
  refine Chain.runK [] 3 fun K hK => ?_; simp; refine hK _ _ ?_; clear hK K
  refine Chain.sub (S' := mk 112 [1000] [(0, .ptr 1000 0 0), (2, .i 0), (3, .i 0)] [(1000, some (.box [.ref 25000 0 a0.Buffer.length, .ref 25001 0 a0.Disk.length, .ref 25002 0 a0.DiskLSN.length, .ref 25003 0 l2.length, .i a0.Flushed, .i a0.LastID, .d (.lit (.slice none 0 0))])), (25000, R3 a0.Buffer), (25001, R3 a0.Disk), (25002, R3 a0.DiskLSN), (25003, R84 l2)]) Sub.tt ?_
  refine Chain.sub (Sub.nilOwnBox (bid := 1000) (j := 6) (id := 25006) (T := 3) (n := 1) rfl rfl (by decide) rfl (by decide)) ?_
  refine Chain.sub (S' := mk 112 [1000] [(0, .ptr 1000 0 0), (2, .i 0), (3, .i 0)] [(1000, some (.box [.ref 25000 0 a0.Buffer.length, .ref 25001 0 a0.Disk.length, .ref 25002 0 a0.DiskLSN.length, .ref 25003 0 l2.length, .i a0.Flushed, .i a0.LastID, .ref 25006 0 (([] : List Int).length)])), (25000, R3 a0.Buffer), (25001, R3 a0.Disk), (25002, R3 a0.DiskLSN), (25003, R84 l2), (25006, R3 ([] : List Int))]) (by simp; exact Sub.table (by simp) (by simp)) ?_
  refine Chain.nil ?_
  refine AW.seqR ?_
  replace h := bsome h; obtain ⟨l4, hl4, h⟩ := h
  obtain ⟨hl4a, hl4⟩ := appL_some hl4
  subst hl4
  try simp only [List.length_nil, Nat.zero_add] at hl4a
  refine Chain.runK [] 10 fun K hK => ?_; simp [hl4a]; refine hK _ _ ?_; clear hK K
  refine Chain.sub (S' := mk 112 [1000] [(0, .ptr 1000 0 0), (2, .i 0), (3, .i 0)] [(28, R3 (([] : List Int) ++ a0.Disk)), (1000, some (.box [.ref 28 0 ((([] : List Int) ++ a0.Disk).length), .ref 25001 0 a0.Disk.length, .ref 25002 0 a0.DiskLSN.length, .ref 25003 0 l2.length, .i a0.Flushed, .i a0.LastID, .ref 25006 0 (([] : List Int).length)])), (25001, R3 a0.Disk), (25002, R3 a0.DiskLSN), (25003, R84 l2), (25006, R3 ([] : List Int))]) Sub.tt ?_
  refine Chain.sub (S' := mk 112 [1000] [(0, .ptr 1000 0 0), (2, .i 0), (3, .i 0)] [(1000, some (.box [.ref 25000 0 ((([] : List Int) ++ a0.Disk).length), .ref 25001 0 a0.Disk.length, .ref 25002 0 a0.DiskLSN.length, .ref 25003 0 l2.length, .i a0.Flushed, .i a0.LastID, .ref 25006 0 (([] : List Int).length)])), (25000, R3 (([] : List Int) ++ a0.Disk)), (25001, R3 a0.Disk), (25002, R3 a0.DiskLSN), (25003, R84 l2), (25006, R3 ([] : List Int))]) (Sub.names [(28, 25000), (1000, 1000), (25001, 25001), (25002, 25002), (25003, 25003), (25006, 25006)] (by simp) (by simp) (by simp [back]) (by simp [V.rnm, lk2]) (by simp [back, Blk.rnm, V.rnm, rnmL, lk2])) ?_
  refine Chain.nil ?_
  refine AW.seqR ?_
  refine Chain.mmake (.int .i64) (by simp) rfl rfl (by simp) ?_
  refine Chain.sub (S' := mk 112 [1000] [(0, .ptr 1000 0 0), (2, .i 0), (3, .i 0), (36, .mref 36)] [(36, some (.mp (.int .i64) (encM MKey.ik vB ([] : List (Int × Bool))))), (1000, some (.box [.ref 25000 0 ((([] : List Int) ++ a0.Disk).length), .ref 25001 0 a0.Disk.length, .ref 25002 0 a0.DiskLSN.length, .ref 25003 0 l2.length, .i a0.Flushed, .i a0.LastID, .ref 25006 0 (([] : List Int).length)])), (25000, R3 (([] : List Int) ++ a0.Disk)), (25001, R3 a0.Disk), (25002, R3 a0.DiskLSN), (25003, R84 l2), (25006, R3 ([] : List Int))]) (by simp; exact Sub.table (by simp) (by simp [encM_nil])) ?_
  refine Chain.runK [] 1 fun K hK => ?_; simp; refine hK _ _ ?_; clear hK K
  refine Chain.sub (S' := mk 112 [1000] [(0, .ptr 1000 0 0), (2, .i 0), (3, .i 0), (4, .mref 36)] [(36, some (.mp (.int .i64) (encM MKey.ik vB ([] : List (Int × Bool))))), (1000, some (.box [.ref 25000 0 ((([] : List Int) ++ a0.Disk).length), .ref 25001 0 a0.Disk.length, .ref 25002 0 a0.DiskLSN.length, .ref 25003 0 l2.length, .i a0.Flushed, .i a0.LastID, .ref 25006 0 (([] : List Int).length)])), (25000, R3 (([] : List Int) ++ a0.Disk)), (25001, R3 a0.Disk), (25002, R3 a0.DiskLSN), (25003, R84 l2), (25006, R3 ([] : List Int))]) Sub.tt ?_
  refine Chain.nil ?_
  refine AW.seqR ?_
  refine Chain.runK [] 1 fun K hK => ?_; simp; refine hK _ _ ?_; clear hK K
  refine Chain.sub (S' := mk 112 [1000] [(0, .ptr 1000 0 0), (2, .i 0), (3, .i 0), (4, .mref 36), (5, .d (.lit (.slice none 0 0)))] [(36, some (.mp (.int .i64) (encM MKey.ik vB ([] : List (Int × Bool))))), (1000, some (.box [.ref 25000 0 ((([] : List Int) ++ a0.Disk).length), .ref 25001 0 a0.Disk.length, .ref 25002 0 a0.DiskLSN.length, .ref 25003 0 l2.length, .i a0.Flushed, .i a0.LastID, .ref 25006 0 (([] : List Int).length)])), (25000, R3 (([] : List Int) ++ a0.Disk)), (25001, R3 a0.Disk), (25002, R3 a0.DiskLSN), (25003, R84 l2), (25006, R3 ([] : List Int))]) Sub.tt ?_
  refine Chain.nil ?_
  refine AW.seq ?_
  refine AW.seqR ?_
  refine Chain.runK [] 6 fun K hK => ?_; simp; refine hK _ _ ?_; clear hK K
  refine Chain.sub (S' := mk 112 [1000] [(0, .ptr 1000 0 0), (2, .i 0), (3, .i 0), (4, .mref 36), (5, .d (.lit (.slice none 0 0))), (40, .ref 25003 0 l2.length), (41, .i (l2.length : Int)), (42, .i 0)] [(36, some (.mp (.int .i64) (encM MKey.ik vB ([] : List (Int × Bool))))), (1000, some (.box [.ref 25000 0 ((([] : List Int) ++ a0.Disk).length), .ref 25001 0 a0.Disk.length, .ref 25002 0 a0.DiskLSN.length, .ref 25003 0 l2.length, .i a0.Flushed, .i a0.LastID, .ref 25006 0 (([] : List Int).length)])), (25000, R3 (([] : List Int) ++ a0.Disk)), (25001, R3 a0.Disk), (25002, R3 a0.DiskLSN), (25003, R84 l2), (25006, R3 ([] : List Int))]) Sub.tt ?_
  refine Chain.nil ?_
  refine AW.lastN (fun ((l74, v75, m76, l77) : ((List Int) × Int × (List (Int × Bool)) × (List Int))) => mk 112 [1000] [(0, .ptr 1000 0 0), (2, .i v75), (3, .i 0), (4, .mref 36), (5, .ref 56 0 l77.length)] [(36, some (.mp (.int .i64) (encM MKey.ik vB m76))), (56, R3 l77), (1000, some (.box [.ref 25000 0 l74.length, .ref 25001 0 a0.Disk.length, .ref 25002 0 a0.DiskLSN.length, .ref 25003 0 l2.length, .i a0.Flushed, .i a0.LastID, .ref 25006 0 (([] : List Int).length)])), (25000, R3 l74), (25001, R3 a0.Disk), (25002, R3 a0.DiskLSN), (25003, R84 l2), (25006, R3 ([] : List Int))]) h ?_ ?_ <;> clear h
  ·intro o h
   refine AW.block ?_
   refine AW.iter (fun ((l24, v25, m26, l27, v28) : ((List Int) × Int × (List (Int × Bool)) × (List Int) × Int)) => mk 112 [1000] [(0, .ptr 1000 0 0), (2, .i v25), (3, .i 0), (4, .mref 36), (5, .ref 56 0 l27.length), (40, .ref 25003 0 l2.length), (41, .i (l2.length : Int)), (42, .i v28)] [(36, some (.mp (.int .i64) (encM MKey.ik vB m26))), (56, R3 l27), (1000, some (.box [.ref 25000 0 l24.length, .ref 25001 0 a0.Disk.length, .ref 25002 0 a0.DiskLSN.length, .ref 25003 0 l2.length, .i a0.Flushed, .i a0.LastID, .ref 25006 0 (([] : List Int).length)])), (25000, R3 l24), (25001, R3 a0.Disk), (25002, R3 a0.DiskLSN), (25003, R84 l2), (25006, R3 ([] : List Int))]) h (Sub.trans (Sub.nilOwn (t := 5) (id := 56) (T := 3) (n := 1) rfl rfl (by decide)) (by simp; exact Sub.table (by simp) (by simp))) ?_
   clear h
   rintro ⟨l24, v25, m26, l27, v28⟩ x h
   dsimp only at h ⊢
   refine AW.seqR ?_
   refine Chain.runK [] 1 fun K hK => ?_; simp; refine hK _ _ ?_; clear hK K
   refine Chain.sub (S' := mk 112 [1000] [(0, .ptr 1000 0 0), (2, .i v25), (3, .i 0), (4, .mref 36), (5, .ref 56 0 l27.length), (40, .ref 25003 0 l2.length), (41, .i (l2.length : Int)), (42, .i v28), (43, .b (decide (v28 < (l2.length : Int))))] [(36, some (.mp (.int .i64) (encM MKey.ik vB m26))), (56, R3 l27), (1000, some (.box [.ref 25000 0 l24.length, .ref 25001 0 a0.Disk.length, .ref 25002 0 a0.DiskLSN.length, .ref 25003 0 l2.length, .i a0.Flushed, .i a0.LastID, .ref 25006 0 (([] : List Int).length)])), (25000, R3 l24), (25001, R3 a0.Disk), (25002, R3 a0.DiskLSN), (25003, R84 l2), (25006, R3 ([] : List Int))]) Sub.tt ?_
   refine Chain.nil ?_
   refine AW.seq ?_
   replace h := isome h; rcases h with ⟨c78, h⟩ | ⟨c78, h⟩
   ·have c78_ : decide (v28 < (l2.length : Int)) = true := decide_eq_true c78
    refine AW.condT (b := decide (v28 < (l2.length : Int))) rfl c78_ ?_
    refine AW.sub (Sub.bool 43 (b := decide (v28 < (l2.length : Int))) rfl c78_) ?_
    refine AW.sub (S' := mk 112 [1000] [(0, .ptr 1000 0 0), (2, .i v25), (3, .i 0), (4, .mref 36), (5, .ref 56 0 l27.length), (40, .ref 25003 0 l2.length), (41, .i (l2.length : Int)), (42, .i v28), (43, .b true)] [(36, some (.mp (.int .i64) (encM MKey.ik vB m26))), (56, R3 l27), (1000, some (.box [.ref 25000 0 l24.length, .ref 25001 0 a0.Disk.length, .ref 25002 0 a0.DiskLSN.length, .ref 25003 0 l2.length, .i a0.Flushed, .i a0.LastID, .ref 25006 0 (([] : List Int).length)])), (25000, R3 l24), (25001, R3 a0.Disk), (25002, R3 a0.DiskLSN), (25003, R84 l2), (25006, R3 ([] : List Int))]) (by simp; exact Sub.table (by simp) (by simp)) ?_
    refine AW.skip ?_
    refine thenQ_normal ?_
    refine AW.seq ?_
    refine AW.block ?_
    refine AW.seqR ?_
    replace h := bsome h; obtain ⟨x79, hx79, h⟩ := h
    obtain ⟨k80, hx79k, hx79, hx79a, hx79b⟩ := idx_some hx79
    refine Chain.runK [] 6 fun K hK => ?_; simp [hx79, hx79k, hx79a, hx79b]; refine hK _ _ ?_; clear hK K
    refine Chain.sub (S' := mk 112 [1000] [(0, .ptr 1000 0 0), (2, .i v25), (3, .i 0), (4, .mref 36), (5, .ref 56 0 l27.length), (6, .i v28), (7, .ptr 7 0 0), (40, .ref 25003 0 l2.length), (41, .i (l2.length : Int)), (42, .i v28)] [(7, some (.box [.i x79.Kind, .i x79.Tx, .i x79.Page, .i x79.Before, .i x79.After])), (36, some (.mp (.int .i64) (encM MKey.ik vB m26))), (56, R3 l27), (1000, some (.box [.ref 25000 0 l24.length, .ref 25001 0 a0.Disk.length, .ref 25002 0 a0.DiskLSN.length, .ref 25003 0 l2.length, .i a0.Flushed, .i a0.LastID, .ref 25006 0 (([] : List Int).length)])), (25000, R3 l24), (25001, R3 a0.Disk), (25002, R3 a0.DiskLSN), (25003, R84 l2), (25006, R3 ([] : List Int))]) Sub.tt ?_
    refine Chain.nil ?_
    refine AW.seq ?_
    refine AW.seqR ?_
    refine Chain.runK [] 3 fun K hK => ?_; simp; refine hK _ _ ?_; clear hK K
    refine Chain.sub (S' := mk 112 [1000] [(0, .ptr 1000 0 0), (2, .i v25), (3, .i 0), (4, .mref 36), (5, .ref 56 0 l27.length), (6, .i v28), (7, .ptr 7 0 0), (40, .ref 25003 0 l2.length), (41, .i (l2.length : Int)), (42, .i v28), (47, .ref 56 0 l27.length), (49, .i x79.Tx)] [(7, some (.box [.i x79.Kind, .i x79.Tx, .i x79.Page, .i x79.Before, .i x79.After])), (36, some (.mp (.int .i64) (encM MKey.ik vB m26))), (56, R3 l27), (1000, some (.box [.ref 25000 0 l24.length, .ref 25001 0 a0.Disk.length, .ref 25002 0 a0.DiskLSN.length, .ref 25003 0 l2.length, .i a0.Flushed, .i a0.LastID, .ref 25006 0 (([] : List Int).length)])), (25000, R3 l24), (25001, R3 a0.Disk), (25002, R3 a0.DiskLSN), (25003, R84 l2), (25006, R3 ([] : List Int))]) Sub.tt ?_
    replace h := bsome h; obtain ⟨r81, hr81, h⟩ := h
    refine Chain.callL (d := 50) (p24 N l27 x79.Tx r81 hr81) (by simp) rfl rfl (by simp <;> rfl) (by simp <;> rfl) ent24 (by simp <;> rfl) ?_
    refine Chain.sub (S' := mk 112 [1000] [(0, .ptr 1000 0 0), (2, .i v25), (3, .i 0), (4, .mref 36), (5, .ref 56 0 l27.length), (6, .i v28), (7, .ptr 7 0 0), (40, .ref 25003 0 l2.length), (41, .i (l2.length : Int)), (42, .i v28), (47, .ref 56 0 l27.length), (49, .i x79.Tx), (50, .b r81)] [(7, some (.box [.i x79.Kind, .i x79.Tx, .i x79.Page, .i x79.Before, .i x79.After])), (36, some (.mp (.int .i64) (encM MKey.ik vB m26))), (56, R3 l27), (1000, some (.box [.ref 25000 0 l24.length, .ref 25001 0 a0.Disk.length, .ref 25002 0 a0.DiskLSN.length, .ref 25003 0 l2.length, .i a0.Flushed, .i a0.LastID, .ref 25006 0 (([] : List Int).length)])), (25000, R3 l24), (25001, R3 a0.Disk), (25002, R3 a0.DiskLSN), (25003, R84 l2), (25006, R3 ([] : List Int))]) (by simp; exact Sub.table (by simp) (by simp)) ?_
    refine Chain.runK [] 1 fun K hK => ?_; simp; refine hK _ _ ?_; clear hK K
    refine Chain.sub (S' := mk 112 [1000] [(0, .ptr 1000 0 0), (2, .i v25), (3, .i 0), (4, .mref 36), (5, .ref 56 0 l27.length), (6, .i v28), (7, .ptr 7 0 0), (40, .ref 25003 0 l2.length), (41, .i (l2.length : Int)), (42, .i v28), (51, .b (!r81))] [(7, some (.box [.i x79.Kind, .i x79.Tx, .i x79.Page, .i x79.Before, .i x79.After])), (36, some (.mp (.int .i64) (encM MKey.ik vB m26))), (56, R3 l27), (1000, some (.box [.ref 25000 0 l24.length, .ref 25001 0 a0.Disk.length, .ref 25002 0 a0.DiskLSN.length, .ref 25003 0 l2.length, .i a0.Flushed, .i a0.LastID, .ref 25006 0 (([] : List Int).length)])), (25000, R3 l24), (25001, R3 a0.Disk), (25002, R3 a0.DiskLSN), (25003, R84 l2), (25006, R3 ([] : List Int))]) Sub.tt ?_
    refine Chain.nil ?_
    refine AW.lastN (fun (l84 : List Int) => mk 112 [1000] [(0, .ptr 1000 0 0), (2, .i v25), (3, .i 0), (4, .mref 36), (5, .ref 56 0 l84.length), (6, .i v28), (7, .ptr 7 0 0), (40, .ref 25003 0 l2.length), (41, .i (l2.length : Int)), (42, .i v28)] [(7, some (.box [.i x79.Kind, .i x79.Tx, .i x79.Page, .i x79.Before, .i x79.After])), (36, some (.mp (.int .i64) (encM MKey.ik vB m26))), (56, R3 l84), (1000, some (.box [.ref 25000 0 l24.length, .ref 25001 0 a0.Disk.length, .ref 25002 0 a0.DiskLSN.length, .ref 25003 0 l2.length, .i a0.Flushed, .i a0.LastID, .ref 25006 0 (([] : List Int).length)])), (25000, R3 l24), (25001, R3 a0.Disk), (25002, R3 a0.DiskLSN), (25003, R84 l2), (25006, R3 ([] : List Int))]) h ?_ ?_ <;> clear h
    ·intro o h
     replace h := isome h; rcases h with ⟨c85, h⟩ | ⟨c85, h⟩
     ·have c85_ : (!r81) = true := c85
      refine AW.condT (b := (!r81)) rfl c85_ ?_
      refine AW.sub (Sub.bool 51 (b := (!r81)) rfl c85_) ?_
      refine AW.sub (S' := mk 112 [1000] [(0, .ptr 1000 0 0), (2, .i v25), (3, .i 0), (4, .mref 36), (5, .ref 56 0 l27.length), (6, .i v28), (7, .ptr 7 0 0), (40, .ref 25003 0 l2.length), (41, .i (l2.length : Int)), (42, .i v28), (51, .b true)] [(7, some (.box [.i x79.Kind, .i x79.Tx, .i x79.Page, .i x79.Before, .i x79.After])), (36, some (.mp (.int .i64) (encM MKey.ik vB m26))), (56, R3 l27), (1000, some (.box [.ref 25000 0 l24.length, .ref 25001 0 a0.Disk.length, .ref 25002 0 a0.DiskLSN.length, .ref 25003 0 l2.length, .i a0.Flushed, .i a0.LastID, .ref 25006 0 (([] : List Int).length)])), (25000, R3 l24), (25001, R3 a0.Disk), (25002, R3 a0.DiskLSN), (25003, R84 l2), (25006, R3 ([] : List Int))]) (by simp; exact Sub.table (by simp) (by simp)) ?_
      refine AW.region ?_
      replace h := bsome h; obtain ⟨l86, hl86, h⟩ := h
      obtain ⟨hl86a, hl86⟩ := appL_some hl86
      subst hl86
      try simp only [List.length_cons, List.length_nil, Nat.zero_add] at hl86a
      refine Chain.runK [55] 6 fun K hK => ?_; simp [hl86a]; refine hK _ _ ?_; clear hK K
      refine Chain.sub (S' := mk 112 [1000] [(0, .ptr 1000 0 0), (2, .i v25), (3, .i 0), (4, .mref 36), (5, .ref 56 0 ((l27 ++ [x79.Tx]).length)), (6, .i v28), (7, .ptr 7 0 0), (40, .ref 25003 0 l2.length), (41, .i (l2.length : Int)), (42, .i v28)] [(7, some (.box [.i x79.Kind, .i x79.Tx, .i x79.Page, .i x79.Before, .i x79.After])), (36, some (.mp (.int .i64) (encM MKey.ik vB m26))), (56, R3 (l27 ++ [x79.Tx])), (1000, some (.box [.ref 25000 0 l24.length, .ref 25001 0 a0.Disk.length, .ref 25002 0 a0.DiskLSN.length, .ref 25003 0 l2.length, .i a0.Flushed, .i a0.LastID, .ref 25006 0 (([] : List Int).length)])), (25000, R3 l24), (25001, R3 a0.Disk), (25002, R3 a0.DiskLSN), (25003, R84 l2), (25006, R3 ([] : List Int))]) Sub.tt ?_
      refine Chain.nil ?_
      cases h
      refine PostN.next ?_
      exact Sub.tt
     ·have c85_ : (!r81) = false := Bool.eq_false_iff.2 c85
      refine AW.condF (b := (!r81)) rfl c85_ ?_
      refine AW.sub (Sub.bool 51 (b := (!r81)) rfl c85_) ?_
      refine AW.sub (S' := mk 112 [1000] [(0, .ptr 1000 0 0), (2, .i v25), (3, .i 0), (4, .mref 36), (5, .ref 56 0 l27.length), (6, .i v28), (7, .ptr 7 0 0), (40, .ref 25003 0 l2.length), (41, .i (l2.length : Int)), (42, .i v28), (51, .b false)] [(7, some (.box [.i x79.Kind, .i x79.Tx, .i x79.Page, .i x79.Before, .i x79.After])), (36, some (.mp (.int .i64) (encM MKey.ik vB m26))), (56, R3 l27), (1000, some (.box [.ref 25000 0 l24.length, .ref 25001 0 a0.Disk.length, .ref 25002 0 a0.DiskLSN.length, .ref 25003 0 l2.length, .i a0.Flushed, .i a0.LastID, .ref 25006 0 (([] : List Int).length)])), (25000, R3 l24), (25001, R3 a0.Disk), (25002, R3 a0.DiskLSN), (25003, R84 l2), (25006, R3 ([] : List Int))]) (by simp; exact Sub.table (by simp) (by simp)) ?_
      refine AW.skip ?_
      cases h
      refine PostN.next ?_
      exact Sub.tt
    ·rintro l84 h
     refine thenQ_normal ?_
     refine AW.seqR ?_
     refine Chain.runK [] 3 fun K hK => ?_; simp; refine hK _ _ ?_; clear hK K
     refine Chain.sub (S' := mk 112 [1000] [(0, .ptr 1000 0 0), (2, .i v25), (3, .i 0), (4, .mref 36), (5, .ref 56 0 l84.length), (6, .i v28), (7, .ptr 7 0 0), (40, .ref 25003 0 l2.length), (41, .i (l2.length : Int)), (42, .i v28), (59, .b (x79.Kind == 3))] [(7, some (.box [.i x79.Kind, .i x79.Tx, .i x79.Page, .i x79.Before, .i x79.After])), (36, some (.mp (.int .i64) (encM MKey.ik vB m26))), (56, R3 l84), (1000, some (.box [.ref 25000 0 l24.length, .ref 25001 0 a0.Disk.length, .ref 25002 0 a0.DiskLSN.length, .ref 25003 0 l2.length, .i a0.Flushed, .i a0.LastID, .ref 25006 0 (([] : List Int).length)])), (25000, R3 l24), (25001, R3 a0.Disk), (25002, R3 a0.DiskLSN), (25003, R84 l2), (25006, R3 ([] : List Int))]) Sub.tt ?_
     refine Chain.nil ?_
     replace h := isome h; rcases h with ⟨c87, h⟩ | ⟨c87, h⟩
     ·have c87_ : (x79.Kind == 3) = true := c87
      refine AW.condT (b := (x79.Kind == 3)) rfl c87_ ?_
      refine AW.sub (Sub.bool 59 (b := (x79.Kind == 3)) rfl c87_) ?_
      refine AW.sub (S' := mk 112 [1000] [(0, .ptr 1000 0 0), (2, .i v25), (3, .i 0), (4, .mref 36), (5, .ref 56 0 l84.length), (6, .i v28), (7, .ptr 7 0 0), (40, .ref 25003 0 l2.length), (41, .i (l2.length : Int)), (42, .i v28), (59, .b true)] [(7, some (.box [.i x79.Kind, .i x79.Tx, .i x79.Page, .i x79.Before, .i x79.After])), (36, some (.mp (.int .i64) (encM MKey.ik vB m26))), (56, R3 l84), (1000, some (.box [.ref 25000 0 l24.length, .ref 25001 0 a0.Disk.length, .ref 25002 0 a0.DiskLSN.length, .ref 25003 0 l2.length, .i a0.Flushed, .i a0.LastID, .ref 25006 0 (([] : List Int).length)])), (25000, R3 l24), (25001, R3 a0.Disk), (25002, R3 a0.DiskLSN), (25003, R84 l2), (25006, R3 ([] : List Int))]) (by simp; exact Sub.table (by simp) (by simp)) ?_
      refine AW.region ?_
      refine Chain.runK [] 3 fun K hK => ?_; simp; refine hK _ _ ?_; clear hK K
      refine Chain.sub (S' := mk 112 [1000] [(0, .ptr 1000 0 0), (2, .i v25), (3, .i 0), (4, .mref 36), (5, .ref 56 0 l84.length), (40, .ref 25003 0 l2.length), (41, .i (l2.length : Int)), (42, .i v28), (60, .mref 36), (62, .i x79.Tx)] [(36, some (.mp (.int .i64) (encM MKey.ik vB m26))), (56, R3 l84), (1000, some (.box [.ref 25000 0 l24.length, .ref 25001 0 a0.Disk.length, .ref 25002 0 a0.DiskLSN.length, .ref 25003 0 l2.length, .i a0.Flushed, .i a0.LastID, .ref 25006 0 (([] : List Int).length)])), (25000, R3 l24), (25001, R3 a0.Disk), (25002, R3 a0.DiskLSN), (25003, R84 l2), (25006, R3 ([] : List Int))]) Sub.tt ?_
      refine Chain.msetE (vf := vB) ik_inj m26 x79.Tx true (by simp) (.inl rfl) ty93 rfl ty3 rfl rfl rfl rfl rfl rfl rfl ?_
      refine Chain.sub (S' := mk 112 [1000] [(0, .ptr 1000 0 0), (2, .i v25), (3, .i 0), (4, .mref 36), (5, .ref 56 0 l84.length), (40, .ref 25003 0 l2.length), (41, .i (l2.length : Int)), (42, .i v28), (60, .mref 36), (62, .i x79.Tx)] [(36, some (.mp (.int .i64) (encM MKey.ik vB (mput m26 x79.Tx true)))), (56, R3 l84), (1000, some (.box [.ref 25000 0 l24.length, .ref 25001 0 a0.Disk.length, .ref 25002 0 a0.DiskLSN.length, .ref 25003 0 l2.length, .i a0.Flushed, .i a0.LastID, .ref 25006 0 (([] : List Int).length)])), (25000, R3 l24), (25001, R3 a0.Disk), (25002, R3 a0.DiskLSN), (25003, R84 l2), (25006, R3 ([] : List Int))]) (by simp; exact Sub.table (by simp) (by simp)) ?_
      refine Chain.nil ?_
      refine blockQ.normal ?_
      refine thenQ_normal ?_
      refine AW.region ?_
      replace h := bsome h; obtain ⟨v88, hv88, h⟩ := h
      have hv88 := chkI_some hv88
      refine Chain.runK [] 2 fun K hK => ?_; simp [hv88]; refine hK _ _ ?_; clear hK K
      refine Chain.sub (S' := mk 112 [1000] [(0, .ptr 1000 0 0), (2, .i v25), (3, .i 0), (4, .mref 36), (5, .ref 56 0 l84.length), (40, .ref 25003 0 l2.length), (41, .i (l2.length : Int)), (42, .i v88)] [(36, some (.mp (.int .i64) (encM MKey.ik vB (mput m26 x79.Tx true)))), (56, R3 l84), (1000, some (.box [.ref 25000 0 l24.length, .ref 25001 0 a0.Disk.length, .ref 25002 0 a0.DiskLSN.length, .ref 25003 0 l2.length, .i a0.Flushed, .i a0.LastID, .ref 25006 0 (([] : List Int).length)])), (25000, R3 l24), (25001, R3 a0.Disk), (25002, R3 a0.DiskLSN), (25003, R84 l2), (25006, R3 ([] : List Int))]) Sub.tt ?_
      refine Chain.nil ?_
      cases h
      refine PostI.next ?_
      exact Sub.tt
     ·have c87_ : (x79.Kind == 3) = false := Bool.eq_false_iff.2 c87
      refine AW.condF (b := (x79.Kind == 3)) rfl c87_ ?_
      refine AW.sub (Sub.bool 59 (b := (x79.Kind == 3)) rfl c87_) ?_
      refine AW.sub (S' := mk 112 [1000] [(0, .ptr 1000 0 0), (2, .i v25), (3, .i 0), (4, .mref 36), (5, .ref 56 0 l84.length), (6, .i v28), (7, .ptr 7 0 0), (40, .ref 25003 0 l2.length), (41, .i (l2.length : Int)), (42, .i v28), (59, .b false)] [(7, some (.box [.i x79.Kind, .i x79.Tx, .i x79.Page, .i x79.Before, .i x79.After])), (36, some (.mp (.int .i64) (encM MKey.ik vB m26))), (56, R3 l84), (1000, some (.box [.ref 25000 0 l24.length, .ref 25001 0 a0.Disk.length, .ref 25002 0 a0.DiskLSN.length, .ref 25003 0 l2.length, .i a0.Flushed, .i a0.LastID, .ref 25006 0 (([] : List Int).length)])), (25000, R3 l24), (25001, R3 a0.Disk), (25002, R3 a0.DiskLSN), (25003, R84 l2), (25006, R3 ([] : List Int))]) (by simp; exact Sub.table (by simp) (by simp)) ?_
      refine AW.seqQ (by kernel_rfl) (by kernel_rfl) ?_
      replace h := bsome h; obtain ⟨v89, hv89, h⟩ := h
      have hv89 := chkI_some hv89
      replace h := bsome h; obtain ⟨x90, hx90, h⟩ := h
      obtain ⟨k91, hx90k, hx90, hx90a, hx90b⟩ := idx_some hx90
      refine Chain.runQ 11 fun K hK => ?_; simp [hv89, hx90, hx90k, hx90a, hx90b]; refine hK _ _ ?_; clear hK K
      refine Chain.sub (S' := mk 112 [1000] [(0, .ptr 1000 0 0), (2, .i v25), (3, .i 0), (4, .mref 36), (5, .ref 56 0 l84.length), (7, .ptr 7 0 0), (40, .ref 25003 0 l2.length), (41, .i (l2.length : Int)), (42, .i v28), (73, .b (decide (v89 > x90)))] [(7, some (.box [.i x79.Kind, .i x79.Tx, .i x79.Page, .i x79.Before, .i x79.After])), (36, some (.mp (.int .i64) (encM MKey.ik vB m26))), (56, R3 l84), (1000, some (.box [.ref 25000 0 l24.length, .ref 25001 0 a0.Disk.length, .ref 25002 0 a0.DiskLSN.length, .ref 25003 0 l2.length, .i a0.Flushed, .i a0.LastID, .ref 25006 0 (([] : List Int).length)])), (25000, R3 l24), (25001, R3 a0.Disk), (25002, R3 a0.DiskLSN), (25003, R84 l2), (25006, R3 ([] : List Int))]) Sub.tt ?_
      refine Chain.nil ?_
      replace h := isome h; rcases h with ⟨c92, h⟩ | ⟨c92, h⟩
      ·have c92_ : decide (v89 > x90) = true := decide_eq_true c92
       refine AW.condT (b := decide (v89 > x90)) rfl c92_ ?_
       refine AW.sub (Sub.bool 73 (b := decide (v89 > x90)) rfl c92_) ?_
       refine AW.sub (S' := mk 112 [1000] [(0, .ptr 1000 0 0), (2, .i v25), (3, .i 0), (4, .mref 36), (5, .ref 56 0 l84.length), (7, .ptr 7 0 0), (40, .ref 25003 0 l2.length), (41, .i (l2.length : Int)), (42, .i v28), (73, .b true)] [(7, some (.box [.i x79.Kind, .i x79.Tx, .i x79.Page, .i x79.Before, .i x79.After])), (36, some (.mp (.int .i64) (encM MKey.ik vB m26))), (56, R3 l84), (1000, some (.box [.ref 25000 0 l24.length, .ref 25001 0 a0.Disk.length, .ref 25002 0 a0.DiskLSN.length, .ref 25003 0 l2.length, .i a0.Flushed, .i a0.LastID, .ref 25006 0 (([] : List Int).length)])), (25000, R3 l24), (25001, R3 a0.Disk), (25002, R3 a0.DiskLSN), (25003, R84 l2), (25006, R3 ([] : List Int))]) (by simp; exact Sub.table (by simp) (by simp)) ?_
       replace h := bsome h; obtain ⟨x93, hx93, h⟩ := h
       obtain ⟨hx93, hx93a, hx93b⟩ := idx_some2 hx93 hx90k
       refine AW.seqT 9 (by kernel_rfl) (by kernel_rfl) fun K hK => ?_; simp [hx90k, hx93a, hx93b]; refine hK _ _ ?_; clear hK K
       refine Chain.sub (S' := mk 112 [1000] [(0, .ptr 1000 0 0), (2, .i v25), (3, .i 0), (4, .mref 36), (5, .ref 56 0 l84.length), (40, .ref 25003 0 l2.length), (41, .i (l2.length : Int)), (42, .i v28), (81, .i x79.After), (82, .ptr 25000 k91 0)] [(36, some (.mp (.int .i64) (encM MKey.ik vB m26))), (56, R3 l84), (1000, some (.box [.ref 25000 0 l24.length, .ref 25001 0 a0.Disk.length, .ref 25002 0 a0.DiskLSN.length, .ref 25003 0 l2.length, .i a0.Flushed, .i a0.LastID, .ref 25006 0 (([] : List Int).length)])), (25000, R3 l24), (25001, R3 a0.Disk), (25002, R3 a0.DiskLSN), (25003, R84 l2), (25006, R3 ([] : List Int))]) Sub.tt ?_
       replace h := lsome h; obtain ⟨l94, gl94, h⟩ := h
       obtain ⟨hl94, hl94n⟩ := setI_some (cI .i64) gl94 hx90k
       replace hl94 : (l24.map (cI .i64)).set k91 [.lit (.int .i64 x79.After)] = l94.map (cI .i64) := hl94
       clear gl94
       refine Chain.runK [] 1 fun K hK => ?_; simp [hx93, hl94]; refine hK _ _ ?_; clear hK K
       refine Chain.sub (S' := mk 112 [1000] [(0, .ptr 1000 0 0), (2, .i v25), (3, .i 0), (4, .mref 36), (5, .ref 56 0 l84.length), (40, .ref 25003 0 l2.length), (41, .i (l2.length : Int)), (42, .i v28)] [(36, some (.mp (.int .i64) (encM MKey.ik vB m26))), (56, R3 l84), (1000, some (.box [.ref 25000 0 l94.length, .ref 25001 0 a0.Disk.length, .ref 25002 0 a0.DiskLSN.length, .ref 25003 0 l2.length, .i a0.Flushed, .i a0.LastID, .ref 25006 0 (([] : List Int).length)])), (25000, R3 l94), (25001, R3 a0.Disk), (25002, R3 a0.DiskLSN), (25003, R84 l2), (25006, R3 ([] : List Int))]) (Sub.table (by simp) (by simp [hl94n])) ?_
       refine Chain.nil ?_
       refine AW.region ?_
       replace h := bsome h; obtain ⟨v95, hv95, h⟩ := h
       have hv95 := chkI_some hv95
       refine Chain.runK [] 3 fun K hK => ?_; simp [hv95]; refine hK _ _ ?_; clear hK K
       refine Chain.sub (S' := mk 112 [1000] [(0, .ptr 1000 0 0), (2, .i v95), (3, .i 0), (4, .mref 36), (5, .ref 56 0 l84.length), (40, .ref 25003 0 l2.length), (41, .i (l2.length : Int)), (42, .i v28)] [(36, some (.mp (.int .i64) (encM MKey.ik vB m26))), (56, R3 l84), (1000, some (.box [.ref 25000 0 l94.length, .ref 25001 0 a0.Disk.length, .ref 25002 0 a0.DiskLSN.length, .ref 25003 0 l2.length, .i a0.Flushed, .i a0.LastID, .ref 25006 0 (([] : List Int).length)])), (25000, R3 l94), (25001, R3 a0.Disk), (25002, R3 a0.DiskLSN), (25003, R84 l2), (25006, R3 ([] : List Int))]) Sub.tt ?_
       refine Chain.nil ?_
       refine blockQ.normal ?_
       refine thenQ_normal ?_
       refine AW.region ?_
       replace h := bsome h; obtain ⟨v96, hv96, h⟩ := h
       have hv96 := chkI_some hv96
       refine Chain.runK [] 2 fun K hK => ?_; simp [hv96]; refine hK _ _ ?_; clear hK K
       refine Chain.sub (S' := mk 112 [1000] [(0, .ptr 1000 0 0), (2, .i v95), (3, .i 0), (4, .mref 36), (5, .ref 56 0 l84.length), (40, .ref 25003 0 l2.length), (41, .i (l2.length : Int)), (42, .i v96)] [(36, some (.mp (.int .i64) (encM MKey.ik vB m26))), (56, R3 l84), (1000, some (.box [.ref 25000 0 l94.length, .ref 25001 0 a0.Disk.length, .ref 25002 0 a0.DiskLSN.length, .ref 25003 0 l2.length, .i a0.Flushed, .i a0.LastID, .ref 25006 0 (([] : List Int).length)])), (25000, R3 l94), (25001, R3 a0.Disk), (25002, R3 a0.DiskLSN), (25003, R84 l2), (25006, R3 ([] : List Int))]) Sub.tt ?_
       refine Chain.nil ?_
       cases h
       refine PostI.next ?_
       exact Sub.tt
      ·have c92_ : decide (v89 > x90) = false := decide_eq_false c92
       refine AW.condF (b := decide (v89 > x90)) rfl c92_ ?_
       refine AW.sub (Sub.bool 73 (b := decide (v89 > x90)) rfl c92_) ?_
       refine AW.sub (S' := mk 112 [1000] [(0, .ptr 1000 0 0), (2, .i v25), (3, .i 0), (4, .mref 36), (5, .ref 56 0 l84.length), (7, .ptr 7 0 0), (40, .ref 25003 0 l2.length), (41, .i (l2.length : Int)), (42, .i v28), (73, .b false)] [(7, some (.box [.i x79.Kind, .i x79.Tx, .i x79.Page, .i x79.Before, .i x79.After])), (36, some (.mp (.int .i64) (encM MKey.ik vB m26))), (56, R3 l84), (1000, some (.box [.ref 25000 0 l24.length, .ref 25001 0 a0.Disk.length, .ref 25002 0 a0.DiskLSN.length, .ref 25003 0 l2.length, .i a0.Flushed, .i a0.LastID, .ref 25006 0 (([] : List Int).length)])), (25000, R3 l24), (25001, R3 a0.Disk), (25002, R3 a0.DiskLSN), (25003, R84 l2), (25006, R3 ([] : List Int))]) (by simp; exact Sub.table (by simp) (by simp)) ?_
       refine AW.skip ?_
       refine blockQ.normal ?_
       refine thenQ_normal ?_
       refine AW.region ?_
       replace h := bsome h; obtain ⟨v97, hv97, h⟩ := h
       have hv97 := chkI_some hv97
       refine Chain.runK [] 2 fun K hK => ?_; simp [hv97]; refine hK _ _ ?_; clear hK K
       refine Chain.sub (S' := mk 112 [1000] [(0, .ptr 1000 0 0), (2, .i v25), (3, .i 0), (4, .mref 36), (5, .ref 56 0 l84.length), (40, .ref 25003 0 l2.length), (41, .i (l2.length : Int)), (42, .i v97)] [(36, some (.mp (.int .i64) (encM MKey.ik vB m26))), (56, R3 l84), (1000, some (.box [.ref 25000 0 l24.length, .ref 25001 0 a0.Disk.length, .ref 25002 0 a0.DiskLSN.length, .ref 25003 0 l2.length, .i a0.Flushed, .i a0.LastID, .ref 25006 0 (([] : List Int).length)])), (25000, R3 l24), (25001, R3 a0.Disk), (25002, R3 a0.DiskLSN), (25003, R84 l2), (25006, R3 ([] : List Int))]) Sub.tt ?_
       refine Chain.nil ?_
       cases h
       refine PostI.next ?_
       exact Sub.tt
   ·have c78_ : decide (v28 < (l2.length : Int)) = false := decide_eq_false c78
    refine AW.condF (b := decide (v28 < (l2.length : Int))) rfl c78_ ?_
    refine AW.sub (Sub.bool 43 (b := decide (v28 < (l2.length : Int))) rfl c78_) ?_
    refine AW.sub (S' := mk 112 [1000] [(0, .ptr 1000 0 0), (2, .i v25), (3, .i 0), (4, .mref 36), (5, .ref 56 0 l27.length), (40, .ref 25003 0 l2.length), (41, .i (l2.length : Int)), (42, .i v28), (43, .b false)] [(36, some (.mp (.int .i64) (encM MKey.ik vB m26))), (56, R3 l27), (1000, some (.box [.ref 25000 0 l24.length, .ref 25001 0 a0.Disk.length, .ref 25002 0 a0.DiskLSN.length, .ref 25003 0 l2.length, .i a0.Flushed, .i a0.LastID, .ref 25006 0 (([] : List Int).length)])), (25000, R3 l24), (25001, R3 a0.Disk), (25002, R3 a0.DiskLSN), (25003, R84 l2), (25006, R3 ([] : List Int))]) (by simp; exact Sub.table (by simp) (by simp)) ?_
    refine AW.exit ?_
    cases h
    refine thenQ_pass (by simp) ?_
    refine PostI.out (by simp) ?_
    rintro rfl
    refine blockQ.hit ?_
    refine PostN.next ?_
    exact Sub.tt
  ·rintro ⟨l74, v75, m76, l77⟩ h
   dsimp only at h ⊢
   refine thenQ_normal ?_
   refine AW.seq ?_
   refine AW.seqR ?_
   refine Chain.runK [] 3 fun K hK => ?_; simp; refine hK _ _ ?_; clear hK K
   refine Chain.sub (S' := mk 112 [1000] [(0, .ptr 1000 0 0), (2, .i v75), (3, .i 0), (4, .mref 36), (86, .ref 56 0 l77.length), (87, .i (l77.length : Int)), (88, .i 0)] [(36, some (.mp (.int .i64) (encM MKey.ik vB m76))), (56, R3 l77), (1000, some (.box [.ref 25000 0 l74.length, .ref 25001 0 a0.Disk.length, .ref 25002 0 a0.DiskLSN.length, .ref 25003 0 l2.length, .i a0.Flushed, .i a0.LastID, .ref 25006 0 (([] : List Int).length)])), (25000, R3 l74), (25001, R3 a0.Disk), (25002, R3 a0.DiskLSN), (25003, R84 l2), (25006, R3 ([] : List Int))]) Sub.tt ?_
   refine Chain.nil ?_
   refine AW.lastN (fun ((l142, l143, l144, l145, v146, v147, l148, v149) : ((List Int) × (List Int) × (List Int) × (List S84) × Int × Int × (List Int) × Int)) => mk 112 [1000] [(0, .ptr 1000 0 0), (2, .i v75), (3, .i v149)] [(1000, some (.box [.ref 25000 0 l142.length, .ref 25001 0 l143.length, .ref 25002 0 l144.length, .ref 25003 0 l145.length, .i v146, .i v147, .ref 25006 0 l148.length])), (25000, R3 l142), (25001, R3 l143), (25002, R3 l144), (25003, R84 l145), (25006, R3 l148)]) h ?_ ?_ <;> clear h
   ·intro o h
    refine AW.block ?_
    refine AW.iter (fun ((l106, l107, l108, l109, v110, v111, l112, v113, v114) : ((List Int) × (List Int) × (List Int) × (List S84) × Int × Int × (List Int) × Int × Int)) => mk 112 [1000] [(0, .ptr 1000 0 0), (2, .i v75), (3, .i v113), (4, .mref 36), (86, .ref 56 0 l77.length), (87, .i (l77.length : Int)), (88, .i v114)] [(36, some (.mp (.int .i64) (encM MKey.ik vB m76))), (56, R3 l77), (1000, some (.box [.ref 25000 0 l106.length, .ref 25001 0 l107.length, .ref 25002 0 l108.length, .ref 25003 0 l109.length, .i v110, .i v111, .ref 25006 0 l112.length])), (25000, R3 l106), (25001, R3 l107), (25002, R3 l108), (25003, R84 l109), (25006, R3 l112)]) h Sub.tt ?_
    clear h
    rintro ⟨l106, l107, l108, l109, v110, v111, l112, v113, v114⟩ x h
    dsimp only at h ⊢
    refine AW.seqR ?_
    refine Chain.runK [] 1 fun K hK => ?_; simp; refine hK _ _ ?_; clear hK K
    refine Chain.sub (S' := mk 112 [1000] [(0, .ptr 1000 0 0), (2, .i v75), (3, .i v113), (4, .mref 36), (86, .ref 56 0 l77.length), (87, .i (l77.length : Int)), (88, .i v114), (89, .b (decide (v114 < (l77.length : Int))))] [(36, some (.mp (.int .i64) (encM MKey.ik vB m76))), (56, R3 l77), (1000, some (.box [.ref 25000 0 l106.length, .ref 25001 0 l107.length, .ref 25002 0 l108.length, .ref 25003 0 l109.length, .i v110, .i v111, .ref 25006 0 l112.length])), (25000, R3 l106), (25001, R3 l107), (25002, R3 l108), (25003, R84 l109), (25006, R3 l112)]) Sub.tt ?_
    refine Chain.nil ?_
    refine AW.seq ?_
    replace h := isome h; rcases h with ⟨c150, h⟩ | ⟨c150, h⟩
    ·have c150_ : decide (v114 < (l77.length : Int)) = true := decide_eq_true c150
     refine AW.condT (b := decide (v114 < (l77.length : Int))) rfl c150_ ?_
     refine AW.sub (Sub.bool 89 (b := decide (v114 < (l77.length : Int))) rfl c150_) ?_
     refine AW.sub (S' := mk 112 [1000] [(0, .ptr 1000 0 0), (2, .i v75), (3, .i v113), (4, .mref 36), (86, .ref 56 0 l77.length), (87, .i (l77.length : Int)), (88, .i v114), (89, .b true)] [(36, some (.mp (.int .i64) (encM MKey.ik vB m76))), (56, R3 l77), (1000, some (.box [.ref 25000 0 l106.length, .ref 25001 0 l107.length, .ref 25002 0 l108.length, .ref 25003 0 l109.length, .i v110, .i v111, .ref 25006 0 l112.length])), (25000, R3 l106), (25001, R3 l107), (25002, R3 l108), (25003, R84 l109), (25006, R3 l112)]) (by simp; exact Sub.table (by simp) (by simp)) ?_
     refine AW.skip ?_
     refine thenQ_normal ?_
     refine AW.seq ?_
     refine AW.block ?_
     refine AW.seqR ?_
     replace h := bsome h; obtain ⟨x151, hx151, h⟩ := h
     obtain ⟨k152, hx151k, hx151, hx151a, hx151b⟩ := idx_some hx151
     refine Chain.runK [] 3 fun K hK => ?_; simp [hx151, hx151k, hx151a, hx151b]; refine hK _ _ ?_; clear hK K
     refine Chain.sub (S' := mk 112 [1000] [(0, .ptr 1000 0 0), (2, .i v75), (3, .i v113), (4, .mref 36), (9, .i x151), (86, .ref 56 0 l77.length), (87, .i (l77.length : Int)), (88, .i v114)] [(36, some (.mp (.int .i64) (encM MKey.ik vB m76))), (56, R3 l77), (1000, some (.box [.ref 25000 0 l106.length, .ref 25001 0 l107.length, .ref 25002 0 l108.length, .ref 25003 0 l109.length, .i v110, .i v111, .ref 25006 0 l112.length])), (25000, R3 l106), (25001, R3 l107), (25002, R3 l108), (25003, R84 l109), (25006, R3 l112)]) Sub.tt ?_
     refine Chain.nil ?_
     refine AW.seqR ?_
     refine Chain.runK [] 2 fun K hK => ?_; simp; refine hK _ _ ?_; clear hK K
     refine Chain.sub (S' := mk 112 [1000] [(0, .ptr 1000 0 0), (2, .i v75), (3, .i v113), (4, .mref 36), (9, .i x151), (86, .ref 56 0 l77.length), (87, .i (l77.length : Int)), (88, .i v114), (92, .mref 36), (93, .i x151)] [(36, some (.mp (.int .i64) (encM MKey.ik vB m76))), (56, R3 l77), (1000, some (.box [.ref 25000 0 l106.length, .ref 25001 0 l107.length, .ref 25002 0 l108.length, .ref 25003 0 l109.length, .i v110, .i v111, .ref 25006 0 l112.length])), (25000, R3 l106), (25001, R3 l107), (25002, R3 l108), (25003, R84 l109), (25006, R3 l112)]) Sub.tt ?_
     replace h := lsome h; obtain ⟨v153, hv153, h⟩ := h
     refine Chain.lookE (vf := vB) ik_inj m76 x151 false (by simp) rfl ty93 rfl ty3 ty4 rfl rfl rfl rfl rfl rfl rfl ?_
     refine Chain.sub (S' := mk 112 [1000] [(0, .ptr 1000 0 0), (2, .i v75), (3, .i v113), (4, .mref 36), (9, .i x151), (86, .ref 56 0 l77.length), (87, .i (l77.length : Int)), (88, .i v114), (92, .mref 36), (93, .i x151), (94, .b v153)] [(36, some (.mp (.int .i64) (encM MKey.ik vB m76))), (56, R3 l77), (1000, some (.box [.ref 25000 0 l106.length, .ref 25001 0 l107.length, .ref 25002 0 l108.length, .ref 25003 0 l109.length, .i v110, .i v111, .ref 25006 0 l112.length])), (25000, R3 l106), (25001, R3 l107), (25002, R3 l108), (25003, R84 l109), (25006, R3 l112)]) (by simp [vB, hv153]; exact Sub.table (by simp) (by simp)) ?_
     refine Chain.runK [] 1 fun K hK => ?_; simp; refine hK _ _ ?_; clear hK K
     refine Chain.sub (S' := mk 112 [1000] [(0, .ptr 1000 0 0), (2, .i v75), (3, .i v113), (4, .mref 36), (9, .i x151), (86, .ref 56 0 l77.length), (87, .i (l77.length : Int)), (88, .i v114), (95, .b (!v153))] [(36, some (.mp (.int .i64) (encM MKey.ik vB m76))), (56, R3 l77), (1000, some (.box [.ref 25000 0 l106.length, .ref 25001 0 l107.length, .ref 25002 0 l108.length, .ref 25003 0 l109.length, .i v110, .i v111, .ref 25006 0 l112.length])), (25000, R3 l106), (25001, R3 l107), (25002, R3 l108), (25003, R84 l109), (25006, R3 l112)]) Sub.tt ?_
     refine Chain.nil ?_
     replace h := isome h; rcases h with ⟨c154, h⟩ | ⟨c154, h⟩
     ·have c154_ : (!v153) = true := c154
      refine AW.condT (b := (!v153)) rfl c154_ ?_
      refine AW.sub (Sub.bool 95 (b := (!v153)) rfl c154_) ?_
      refine AW.sub (S' := mk 112 [1000] [(0, .ptr 1000 0 0), (2, .i v75), (3, .i v113), (4, .mref 36), (9, .i x151), (86, .ref 56 0 l77.length), (87, .i (l77.length : Int)), (88, .i v114), (95, .b true)] [(36, some (.mp (.int .i64) (encM MKey.ik vB m76))), (56, R3 l77), (1000, some (.box [.ref 25000 0 l106.length, .ref 25001 0 l107.length, .ref 25002 0 l108.length, .ref 25003 0 l109.length, .i v110, .i v111, .ref 25006 0 l112.length])), (25000, R3 l106), (25001, R3 l107), (25002, R3 l108), (25003, R84 l109), (25006, R3 l112)]) (by simp; exact Sub.table (by simp) (by simp)) ?_
      refine AW.region ?_
      refine Chain.runK [] 3 fun K hK => ?_; simp; refine hK _ _ ?_; clear hK K
      refine Chain.sub (S' := mk 112 [1000] [(0, .ptr 1000 0 0), (2, .i v75), (4, .mref 36), (86, .ref 56 0 l77.length), (87, .i (l77.length : Int)), (88, .i v114), (96, .i v113), (97, .ptr 1000 0 0), (98, .i x151)] [(36, some (.mp (.int .i64) (encM MKey.ik vB m76))), (56, R3 l77), (1000, some (.box [.ref 25000 0 l106.length, .ref 25001 0 l107.length, .ref 25002 0 l108.length, .ref 25003 0 l109.length, .i v110, .i v111, .ref 25006 0 l112.length])), (25000, R3 l106), (25001, R3 l107), (25002, R3 l108), (25003, R84 l109), (25006, R3 l112)]) Sub.tt ?_
      replace h := bsome h; obtain ⟨r155, hr155, h⟩ := h
      refine Chain.callF (p30 N (S56.mk l106 l107 l108 l109 v110 v111 l112) x151 r155 hr155) [(1000, 1000), (25000, 25000), (25001, 25001), (25002, 25002), (25003, 25003), (25006, 25006)] [1000] [(1000, 1000), (25000, 25000), (25001, 25001), (25002, 25002), (25003, 25003), (25006, 25006)] [(1000, (.box [.ref 25000 0 r155.1.Buffer.length, .ref 25001 0 r155.1.Disk.length, .ref 25002 0 r155.1.DiskLSN.length, .ref 25003 0 r155.1.Log.length, .i r155.1.Flushed, .i r155.1.LastID, .ref 25006 0 r155.1.Active.length])), (25000, (.arr 3 1 (r155.1.Buffer.map (cI .i64)))), (25001, (.arr 3 1 (r155.1.Disk.map (cI .i64)))), (25002, (.arr 3 1 (r155.1.DiskLSN.map (cI .i64)))), (25003, (.arr 84 5 (r155.1.Log.map cS84))), (25006, (.arr 3 1 (r155.1.Active.map (cI .i64))))] (.i r155.2) (by simp) rfl (by simp <;> rfl) (by simp) (by simp) (by simp) (by simp) (by simp) ent30 (by simp) (by simp) (by simp) (by simp) (by simp) (by simp) ?_
      refine Chain.sub (S' := mk 112 [1000] [(0, .ptr 1000 0 0), (2, .i v75), (4, .mref 36), (86, .ref 56 0 l77.length), (87, .i (l77.length : Int)), (88, .i v114), (96, .i v113), (97, .ptr 1000 0 0), (98, .i x151), (99, .i r155.2)] [(36, some (.mp (.int .i64) (encM MKey.ik vB m76))), (56, R3 l77), (1000, some (.box [.ref 25000 0 r155.1.Buffer.length, .ref 25001 0 r155.1.Disk.length, .ref 25002 0 r155.1.DiskLSN.length, .ref 25003 0 r155.1.Log.length, .i r155.1.Flushed, .i r155.1.LastID, .ref 25006 0 r155.1.Active.length])), (25000, R3 r155.1.Buffer), (25001, R3 r155.1.Disk), (25002, R3 r155.1.DiskLSN), (25003, R84 r155.1.Log), (25006, R3 r155.1.Active)]) (by simp; exact Sub.table (by simp) (by simp)) ?_
      replace h := bsome h; obtain ⟨v156, hv156, h⟩ := h
      have hv156 := chkI_some hv156
      refine Chain.runK [] 2 fun K hK => ?_; simp [hv156]; refine hK _ _ ?_; clear hK K
      refine Chain.sub (S' := mk 112 [1000] [(0, .ptr 1000 0 0), (2, .i v75), (3, .i v156), (4, .mref 36), (86, .ref 56 0 l77.length), (87, .i (l77.length : Int)), (88, .i v114)] [(36, some (.mp (.int .i64) (encM MKey.ik vB m76))), (56, R3 l77), (1000, some (.box [.ref 25000 0 r155.1.Buffer.length, .ref 25001 0 r155.1.Disk.length, .ref 25002 0 r155.1.DiskLSN.length, .ref 25003 0 r155.1.Log.length, .i r155.1.Flushed, .i r155.1.LastID, .ref 25006 0 r155.1.Active.length])), (25000, R3 r155.1.Buffer), (25001, R3 r155.1.Disk), (25002, R3 r155.1.DiskLSN), (25003, R84 r155.1.Log), (25006, R3 r155.1.Active)]) Sub.tt ?_
      refine Chain.nil ?_
      refine blockQ.normal ?_
      refine thenQ_normal ?_
      refine AW.region ?_
      replace h := bsome h; obtain ⟨v157, hv157, h⟩ := h
      have hv157 := chkI_some hv157
      refine Chain.runK [] 2 fun K hK => ?_; simp [hv157]; refine hK _ _ ?_; clear hK K
      refine Chain.sub (S' := mk 112 [1000] [(0, .ptr 1000 0 0), (2, .i v75), (3, .i v156), (4, .mref 36), (86, .ref 56 0 l77.length), (87, .i (l77.length : Int)), (88, .i v157)] [(36, some (.mp (.int .i64) (encM MKey.ik vB m76))), (56, R3 l77), (1000, some (.box [.ref 25000 0 r155.1.Buffer.length, .ref 25001 0 r155.1.Disk.length, .ref 25002 0 r155.1.DiskLSN.length, .ref 25003 0 r155.1.Log.length, .i r155.1.Flushed, .i r155.1.LastID, .ref 25006 0 r155.1.Active.length])), (25000, R3 r155.1.Buffer), (25001, R3 r155.1.Disk), (25002, R3 r155.1.DiskLSN), (25003, R84 r155.1.Log), (25006, R3 r155.1.Active)]) Sub.tt ?_
      refine Chain.nil ?_
      cases h
      refine PostI.next ?_
      exact Sub.tt
     ·have c154_ : (!v153) = false := Bool.eq_false_iff.2 c154
      refine AW.condF (b := (!v153)) rfl c154_ ?_
      refine AW.sub (Sub.bool 95 (b := (!v153)) rfl c154_) ?_
      refine AW.sub (S' := mk 112 [1000] [(0, .ptr 1000 0 0), (2, .i v75), (3, .i v113), (4, .mref 36), (9, .i x151), (86, .ref 56 0 l77.length), (87, .i (l77.length : Int)), (88, .i v114), (95, .b false)] [(36, some (.mp (.int .i64) (encM MKey.ik vB m76))), (56, R3 l77), (1000, some (.box [.ref 25000 0 l106.length, .ref 25001 0 l107.length, .ref 25002 0 l108.length, .ref 25003 0 l109.length, .i v110, .i v111, .ref 25006 0 l112.length])), (25000, R3 l106), (25001, R3 l107), (25002, R3 l108), (25003, R84 l109), (25006, R3 l112)]) (by simp; exact Sub.table (by simp) (by simp)) ?_
      refine AW.skip ?_
      refine blockQ.normal ?_
      refine thenQ_normal ?_
      refine AW.region ?_
      replace h := bsome h; obtain ⟨v158, hv158, h⟩ := h
      have hv158 := chkI_some hv158
      refine Chain.runK [] 2 fun K hK => ?_; simp [hv158]; refine hK _ _ ?_; clear hK K
      refine Chain.sub (S' := mk 112 [1000] [(0, .ptr 1000 0 0), (2, .i v75), (3, .i v113), (4, .mref 36), (86, .ref 56 0 l77.length), (87, .i (l77.length : Int)), (88, .i v158)] [(36, some (.mp (.int .i64) (encM MKey.ik vB m76))), (56, R3 l77), (1000, some (.box [.ref 25000 0 l106.length, .ref 25001 0 l107.length, .ref 25002 0 l108.length, .ref 25003 0 l109.length, .i v110, .i v111, .ref 25006 0 l112.length])), (25000, R3 l106), (25001, R3 l107), (25002, R3 l108), (25003, R84 l109), (25006, R3 l112)]) Sub.tt ?_
      refine Chain.nil ?_
      cases h
      refine PostI.next ?_
      exact Sub.tt
    ·have c150_ : decide (v114 < (l77.length : Int)) = false := decide_eq_false c150
     refine AW.condF (b := decide (v114 < (l77.length : Int))) rfl c150_ ?_
     refine AW.sub (Sub.bool 89 (b := decide (v114 < (l77.length : Int))) rfl c150_) ?_
     refine AW.sub (S' := mk 112 [1000] [(0, .ptr 1000 0 0), (2, .i v75), (3, .i v113), (4, .mref 36), (86, .ref 56 0 l77.length), (87, .i (l77.length : Int)), (88, .i v114), (89, .b false)] [(36, some (.mp (.int .i64) (encM MKey.ik vB m76))), (56, R3 l77), (1000, some (.box [.ref 25000 0 l106.length, .ref 25001 0 l107.length, .ref 25002 0 l108.length, .ref 25003 0 l109.length, .i v110, .i v111, .ref 25006 0 l112.length])), (25000, R3 l106), (25001, R3 l107), (25002, R3 l108), (25003, R84 l109), (25006, R3 l112)]) (by simp; exact Sub.table (by simp) (by simp)) ?_
     refine AW.exit ?_
     cases h
     refine thenQ_pass (by simp) ?_
     refine PostI.out (by simp) ?_
     rintro rfl
     refine blockQ.hit ?_
     refine PostN.next ?_
     exact Sub.tt
   ·rintro ⟨l142, l143, l144, l145, v146, v147, l148, v149⟩ h
    dsimp only at h ⊢
    refine thenQ_normal ?_
    refine AW.seqR ?_
    refine Chain.runK [] 9 fun K hK => ?_; simp; refine hK _ _ ?_; clear hK K
    refine Chain.sub (S' := mk 112 [1000] [(2, .i v75), (3, .i v149)] [(1000, some (.box [.ref 25000 0 l142.length, .ref 25001 0 l143.length, .ref 25002 0 l144.length, .ref 25003 0 l145.length, .i (l145.length : Int), .i v147, .ref 25006 0 l148.length])), (25000, R3 l142), (25001, R3 l143), (25002, R3 l144), (25003, R84 l145), (25006, R3 l148)]) Sub.tt ?_
    refine Chain.nil ?_
    refine AW.seqR ?_
    refine Chain.runK [] 4 fun K hK => ?_; simp; refine hK _ _ ?_; clear hK K
    refine Chain.sub (S' := mk 112 [1000] [(2, .i v75), (3, .i v149)] [(1000, some (.box [.ref 25000 0 l142.length, .ref 25001 0 l143.length, .ref 25002 0 l144.length, .ref 25003 0 l145.length, .i (l145.length : Int), .i v147, .ref 25006 0 l148.length])), (25000, R3 l142), (25001, R3 l143), (25002, R3 l144), (25003, R84 l145), (25006, R3 l148)]) Sub.tt ?_
    refine Chain.nil ?_
    refine AW.ret ?_
    cases h
    exact FinF.ret (by simp) (by simp)

end Go.Proofs.Ytiikoldaocnilaa
