/- slices.Sorted(maps.Keys(m)) and maps.Clone for the abstract machine. The first theorems are printed by the kit's lay-iter. -/
import Derived.Test.YtdiekinmoklonacA3
import Derived.Test.YtdiekinmoklonacShelf
import Derived.Test.YtdiekinmoklonacTy
namespace Go.Proofs
open Go.RowKit Go.Maps Go.Sort Go.Shelf

/-- slices.Sort's two contracts at this dump, at the fence that asks nothing. -/
theorem Try.sorts20 (m : Nat) : AnyZ.SortsIn Try.prog Try.sorted20_ren Fence.wide m :=
 ⟨fun blk off cap ss W hH hblk hsz => callsIn_wide.2 (AnyM.slices_Sort_string Try.sort31 blk off cap ss W hH hblk hsz),
  fun p cap W => callsIn_wide.2 (AnyM.slices_Sort_string_none Try.sort31 p cap W)⟩

/-- **maps.Keys[map[string]int,string,int], at whatever map, the nil one too:** a function value over ONE NEW BLOCK, which holds the map. -/
theorem Try.maps_Keys_21 (mb : Option Nat) (W : World) : CallsIn Fence.wide 5 Try.prog 21 #[.map mb] W fun e w' => e = .returned (.func (.func 32) #[] #[.pointer (some ⟨W.heap.size, 0, none⟩)]) ∧ w' = W.alloc (.cells #[.map mb] 32) :=
 AnyZ.keys_in Try.keys21 Fence.wide 5 trivial rfl mb W

set_option maxHeartbeats 1000000 in
/-- **slices.Sorted[string] AT WHAT maps.Keys[map[string]int,string,int] HANDED BACK FOR A MAP THAT IS NOT nil** ('w': the world AHEAD of maps.Keys' call): A NEW SLICE THAT HOLDS THE MAP's KEYS, SORTED; nil just where it has none; nothing that lay before has turned. -/
theorem Try.slices_Sorted_keys_20_21 {H : Type} (b nn : Nat) (D0 : DataW H) (R : Value → Option (DataW H × List MemPlace)) (w : World) (hown : w.ownsMap Try.prog 9 R b nn D0) (hmax : Maps.size D0 ≤ maxLen) (hbytes : Maps.size D0 * 16 ≤ 140737488355328) :
  CallsIn Fence.wide 5 Try.prog 20 #[.func (.func 32) #[] #[.pointer (some ⟨w.heap.size, 0, none⟩)]] (w.alloc (.cells #[.map (some b)] 32)) fun e w' => ∃ (v : Value) (ss : List (List UInt8)), e = .returned v ∧ ss.Perm (strKeys D0) ∧
   w'.ownsRow (w.alloc (.cells #[.map (some b)] 32)).heap.size 9 1 v ss.length ((ss.mergeSort (fun x y => decide (x ≤ y))).map encStr) ∧ (v = .slice none 0 0 ↔ ss = []) ∧ Below (w.alloc (.cells #[.map (some b)] 32)).heap.size (w.alloc (.cells #[.map (some b)] 32)) w' := by
 have hbl := hown.lt
 have hseq : SeqGives Fence.wide 2 Try.prog 32 #[.pointer (some ⟨w.heap.size, 0, none⟩)] encStr (fun ss => ss.Perm (strKeys D0)) (Maps.size D0) (w.alloc (.cells #[.map (some b)] 32)) :=
  AnyZ.keys_gives (ρ := Try.keys21_ren) { Try.keys21 with } Fence.wide _ trivial rfl (by omega) w.heap.size b nn D0 _ (by simp) (by simp) (by
   obtain ⟨es, clock, hb, Ft, hs, hD⟩ := hown
   exact ⟨es, clock, (Below.heap_alloc _ _ b hbl).trans hb, Ft, hs, hD⟩)
 exact AnyZ.sorted_in Try.sorted20 Fence.wide 5 trivial trivial trivial trivial rfl (by omega) (Try.sorts20 _) (enters_of Try.func31 (by kernel_rfl) rfl) 32 #[.pointer (some ⟨w.heap.size, 0, none⟩)] trivial (enters_of Try.func32 (by kernel_rfl) rfl) _ _ hmax hbytes _ hseq


end Go.Proofs
namespace Go.Proofs.Ytdiekinmoklonac
open Go.Ab Go.Maps Go.Sort Go.Shelf

/-- a map's keys, sorted -/
def skeys (m : List (ByteArray × Int)) : List ByteArray := ((m.map fun p => p.1.data.toList).mergeSort leB).map fun l => ⟨l.toArray⟩

theorem clone_om (m : List (ByteArray × Int)) : FunOM Try.prog 10 [.d (.mpi .string false (m.map (MKey.sk ∘ Prod.fst)) (m.map (cI .i64 ∘ Prod.snd)))] .string (encM MKey.sk (vI .i64) m) :=
 FunOM.clone (fun b es clock w hb => AnyW.maps_Clone Try.cloneM b es clock w hb) .string MKey.sk (vI .i64) (cI .i64) (fun _a => ⟨_, rfl, rfl⟩) m

theorem keys_key {m : List (ByteArray × Int)} : ∀ {es : List MapEntry}, es.map (·.key) = (m.map (MKey.sk ∘ Prod.fst)).map MKey.enc → es.map (·.key) = m.map fun p => Value.string p.1 := fun h => by
 rw [h, List.map_map]; rfl

theorem keys_sorted (m : List (ByteArray × Int)) (hl : m.length * 16 ≤ 140737488355328) (hk : ∀ p ∈ m, p.1.size ≤ maxLen) :
  FunC2 Try.prog 21 20 [.d (.mpi .string false (m.map (MKey.sk ∘ Prod.fst)) (m.map (cI .i64 ∘ Prod.snd)))] (.d (.sl ((skeys m).map cS))) := by
 refine ⟨rfl, fun w Z vals hg hz hv => ?_⟩
 obtain ⟨v, r, rfl, hv, hr⟩ := hv
 have hr : r = [] := hr
 subst hr
 obtain ⟨b, es, clock, rfl, hb, hbl, hst, hkd, hkeys, hx⟩ := hv
 have hkk := keys_key hkeys
 have hlen : es.size = m.length := by
  have := congrArg List.length hkk
  simpa using this
 let R : Value → Option (DataW Unit × List MemPlace) := fun _ => some (.nil, [])
 have hrd : ∀ x ∈ es.toList, ∃ s : ByteArray, x.key = .string s ∧ WideElems.rd Try.prog 9 R x = some (.string s.data.toList, .nil) := fun x hx => by
  have h1 : x.key ∈ es.toList.map (·.key) := List.mem_map.2 ⟨x, hx, rfl⟩
  rw [hkk] at h1
  obtain ⟨p, hp, h2⟩ := List.mem_map.1 h1
  refine ⟨p.1, h2.symm, ?_⟩
  unfold WideElems.rd
  rw [← h2, WideMaps.keyOf_string_mk Try.underlying9 (hk p hp)]
  rfl
 have hfit : WideElems.Fit Try.prog 9 R es clock := ⟨by rw [hlen]; unfold maxLen; omega, hst, fun x hx => let ⟨s, _, h⟩ := hrd x hx; ⟨_, h⟩⟩
 have hown : w.ownsMap Try.prog 9 R b es.size (.map ((es.toList.map (WideElems.rg Try.prog 9 R)).foldr DataW.insert [])) := ⟨es, clock, hbl, hfit, Nat.le_refl _, rfl⟩
 have hperm := WideShapes.sorted_perm (es.toList.map (WideElems.rg Try.prog 9 R))
 have hsz : Maps.size (.map ((es.toList.map (WideElems.rg Try.prog 9 R)).foldr DataW.insert [])) = m.length := by
  show List.length _ = _
  rw [hperm.length_eq, List.length_map, Array.length_toList, hlen]
 have hks : (strKeys (.map ((es.toList.map (WideElems.rg Try.prog 9 R)).foldr DataW.insert []))).Perm (m.map fun p => p.1.data.toList) := by
  refine (hperm.map _).trans ?_
  rw [List.map_map]
  have : ∀ (l : List MapEntry) (n : List (ByteArray × Int)), (∀ x ∈ l, x ∈ es.toList) → l.map (·.key) = n.map (fun p => Value.string p.1) → l.map ((fun p => strOf p.1) ∘ WideElems.rg Try.prog 9 R) = n.map fun p => p.1.data.toList := fun l => by
   induction l with
   | nil => intro n _ h; cases n with
    | nil => rfl
    | cons _ _ => cases h
   | cons x l ih => intro n hm h; cases n with
    | nil => cases h
    | cons q n =>
     simp only [List.map_cons, List.cons.injEq] at h ⊢
     obtain ⟨s, h1, h2⟩ := hrd x (hm x (.head _))
     refine ⟨?_, ih n (fun y hy => hm y (.tail _ hy)) h.2⟩
     have h3 : s = q.1 := by
      have := h1.symm.trans h.1
      injection this
     show strOf (WideElems.rg Try.prog 9 R x).1 = _
     unfold WideElems.rg
     rw [h2, h3]; rfl
  rw [this es.toList m (fun _ h => h) hkk]
 refine (callsIn_wide.1 (Try.maps_Keys_21 (some b) w)).mono ?_
 rintro e w1 ⟨rfl, rfl⟩
 refine ⟨_, rfl, ?_⟩
 refine (callsIn_wide.1 (Try.slices_Sorted_keys_20_21 b es.size _ R w hown (by rw [hsz]; unfold maxLen; omega) (by rw [hsz]; exact hl))).mono ?_
 rintro e w' ⟨v, ss, rfl, hS, hrow, hnil, hbel⟩
 have hsk : (skeys m).map cS = (ss.mergeSort leB).map fun x => [D.lit (encStr x)] := by
  unfold skeys
  rw [← mergeSort_of_perm (hS.trans hks), List.map_map]
  rfl
 have hg1 : Grow w w' := (grow_alloc w _).trans' hbel
 refine ⟨v, fun q => w.heap.size ≤ q ∧ q < w'.heap.size, rfl, ?_, fun q hq => ⟨.inr hq.1, hq.2⟩, hg1⟩
 have hlm : (ss.mergeSort leB).length = ss.length := List.length_mergeSort ss
 rw [hsk]
 obtain ⟨h1, h2⟩ := hrow
 rcases h2 with ⟨rfl, h3⟩ | ⟨g, cap, cur, rfl, h3, h4, h5, h6, h7, h8⟩
 ·refine ⟨none, 0, ?_, ?_, Nat.zero_le _, fun _ => rfl, fun hne => ?_⟩
  ·rw [List.length_map, hlm, h3]
  ·rw [List.length_map, hlm, h3]; exact Nat.le_refl _
  ·exact absurd (List.length_eq_zero_iff.1 (by rw [List.length_map, hlm, h3])) hne
 ·refine ⟨some ⟨g, 0, none⟩, cap, ?_, ?_, h6, (fun h => by cases h), fun _ => ⟨g, 0, 1, (ss.mergeSort leB).map encStr, rfl, ?_, ?_, ?_, ?_⟩⟩
  ·rw [List.length_map, hlm]
  ·rw [List.length_map, hlm]; exact h5
  ·exact ⟨Nat.le_trans (grow_alloc w _).size h3, (Array.getElem?_eq_some_iff.1 h4).1⟩
  ·intro e he
   obtain ⟨x, _, rfl⟩ := List.mem_map.1 he
   rfl
  ·exact (RDe_lits1 encStr (fun _ => rfl) _ _).2 rfl
  ·intro j x hj
   have hj' : (ss.mergeSort leB).map encStr = cur.toList.take (ss.length * 1) := h8.symm
   rw [hj', List.getElem?_take] at hj
   split at hj
   ·rw [Array.getElem?_toList] at hj
    simp [World.cell?, h4, hj]
   ·cases hj

/-- slices.Sorted(maps.Keys(m)), for a map that is small enough -/
def keysL (m : List (ByteArray × Int)) : Option (List ByteArray) := if m.length * 16 ≤ 140737488355328 ∧ ∀ p ∈ m, p.1.size ≤ maxLen then some (skeys m) else none
theorem keys_sortedL {m : List (ByteArray × Int)} {r : List ByteArray} (h : keysL m = some r) :
  FunC2 Try.prog 21 20 [.d (.mpi .string false (m.map (MKey.sk ∘ Prod.fst)) (m.map (cI .i64 ∘ Prod.snd)))] (.d (.sl (r.map cS))) := by
 unfold keysL at h
 split at h
 ·rename_i hc
  injection h with h
  subst h
  exact keys_sorted m hc.1 hc.2
 ·cases h
end Go.Proofs.Ytdiekinmoklonac
