/- The bucket's methods: what each call returns and what becomes of the bucket's four cells. -/
import Derived.Test.YtbhmaafneibdjaaRows
import Derived.Test.YtbhmaafneibdjaaRep
import Derived.WalkSpells
import Derived.WalkLawsBesides
import Derived.Outline
import Derived.RegionTactic
import Derived.Deep.QuietTactic
import Derived.BigQuiet

namespace Go.Proofs.Ytbhmaafneibdjaa
open Go.RowKit Go.Rp

/-- the bucket's block -/
def Bucket (w : World) (k : Nat) (r b t d : Int) : Prop :=
  w.heap[k]? = some (.cells #[.int .i64 r, .int .i64 b, .int .i64 t, .int .i64 d] 36 (0, 0))

theorem Bucket.cells {w : World} {k : Nat} {r b t d : Int} (h : Bucket w k r b t d) :
  w.cell? ⟨k, 0, none⟩ = some (.int .i64 r) ∧ w.cell? ⟨k, 1, none⟩ = some (.int .i64 b) ∧ w.cell? ⟨k, 2, none⟩ = some (.int .i64 t) ∧ w.cell? ⟨k, 3, none⟩ = some (.int .i64 d) ∧
  w.frozen? ⟨k, 0, none⟩ = false ∧ w.frozen? ⟨k, 1, none⟩ = false ∧ w.frozen? ⟨k, 2, none⟩ = false ∧ w.frozen? ⟨k, 3, none⟩ = false := by
  unfold Bucket at h
  simp [World.cell?, World.frozen?, h]
theorem Bucket.set2 {w : World} {k : Nat} {r b t d : Int} (h : Bucket w k r b t d) {x y : Int} (e : x = y) : Bucket (w.setCell ⟨k, 2, none⟩ (.int .i64 x)) k r b y d := by
  unfold Bucket at *; rw [heap_setCell_at h, e]; rfl
theorem Bucket.set3 {w : World} {k : Nat} {r b t d : Int} (h : Bucket w k r b t d) {x y : Int} (e : x = y) : Bucket (w.setCell ⟨k, 3, none⟩ (.int .i64 x)) k r b t y := by
  unfold Bucket at *; rw [heap_setCell_at h, e]; rfl
theorem Bucket.drew {w : World} {k : Nat} {r b t d : Int} (h : Bucket w k r b t d) : Bucket w.drew k r b t d := h
theorem Bucket.drewN {w : World} {k : Nat} {r b t d : Int} (h : Bucket w k r b t d) (n : Nat) : Bucket (w.drewN n) k r b t d := h

theorem ret1 {k : IntKind} {a b : Int} (h : a = b) : Ending.returned (.int k a) = .returned (.int k b) := by rw [h]
theorem ret2 {k : IntKind} {a b c d : Int} (h : a = c) (h' : b = d) : Ending.returned (.tuple #[.int k a, .int k b]) = .returned (.tuple #[.int k c, .int k d]) := by rw [h, h']

set_option maxHeartbeats 400000 in
theorem take_ok (k : Nat) (r b t d n : Int) (w : World) (h : Bucket w k r b t d) (h1 : 0 ≤ n) (h2 : n ≤ 1000000) (h3 : 0 ≤ t) (h4 : t ≤ 1000000):
    Calls Try.prog 5 #[.pointer (some ⟨k, 0, none⟩), .int .i64 n] w fun e w' => e = .returned (.tuple #[.int .i64 (min n t), .int .i64 0]) ∧ Bucket w' k r b (t - min n t) d ∧ Only k w w' := by
  obtain ⟨c0, c1, c2, c3, f0, f1, f2, f3⟩ := h.cells
  have H := Rp.hid h; clear h
  go_enter Try.func5, Try.ntmps5
  go_wp2
  all_goals (go_ret2; exact ⟨ret2 (by omega) rfl, H.out.set2 (by omega), (Only.refl _ _).setCell _ _⟩)

theorem take_bad (k : Nat) (n : Int) (w : World) (h1 : n < 0 ∨ 1000000 < n) :
    Calls Try.prog 5 #[.pointer (some ⟨k, 0, none⟩), .int .i64 n] w fun e w' => e = .returned (.tuple #[.int .i64 0, .int .i64 1]) ∧ w = w' := by
  go_enter Try.func5, Try.ntmps5
  go_wp2
  all_goals (go_ret2; exact ⟨ret2 (by omega) rfl, rfl⟩)

set_option maxHeartbeats 400000 in
theorem avail_ok (k : Nat) (r b t d : Int) (w : World) (h : Bucket w k r b t d) :
    Calls Try.prog 10 #[.pointer (some ⟨k, 0, none⟩)] w fun e w' => e = .returned (.tuple #[.int .i64 t, .int .i64 d]) ∧ ∃ n, w' = w.drewN n := by
  obtain ⟨c0, c1, c2, c3, f0, f1, f2, f3⟩ := h.cells
  go_enter Try.func10, Try.ntmps10
  go_wp2
  go_quiet (fail)
  go_wp2
  go_ret2
  exact ⟨rfl, _, rfl⟩

theorem adv_bad (k : Nat) (n : Int) (w : World) (h1 : n < 0 ∨ 1000000 < n) :
    Calls Try.prog 7 #[.pointer (some ⟨k, 0, none⟩), .int .i64 n] w fun e w' => e = .returned (.int .i64 1) ∧ w = w' := by
  go_enter Try.func7, Try.ntmps7
  go_wp2
  all_goals (go_ret; exact ⟨rfl, rfl⟩)

set_option maxHeartbeats 400000 in
theorem adv_ok (k : Nat) (r b t d n : Int) (w : World) (h : Bucket w k r b t d) (h1 : 0 ≤ n) (h2 : n ≤ 1000000) (h3 : 0 ≤ t) (h4 : t ≤ 1000000) (h5 : 1 ≤ r) (h6 : r ≤ 1000) (h7 : 0 ≤ d) (h8 : d ≤ 1000000) (h9 : 0 ≤ b) (h10 : b ≤ 1000000) (hg0 : 0 ≤ n * r) (hg1 : n * r ≤ 1000000000) :
    Calls Try.prog 7 #[.pointer (some ⟨k, 0, none⟩), .int .i64 n] w fun e w' => e = .returned (.int .i64 0) ∧ Bucket w' k r b (min b (t + n * r - min (n * r) d)) (d - min (n * r) d) ∧ Only k w w' := by
  obtain ⟨c0, c1, c2, c3, f0, f1, f2, f3⟩ := h.cells
  have H := Rp.hid h; clear h
  go_enter Try.func7, Try.ntmps7
  go_wp2
  all_goals go_region
  all_goals go_wp2
  all_goals (go_ret; exact ⟨rfl, by first | exact ((H.out.set3 (by omega)).drew.set2 (by omega)) | exact ((H.out.set3 (by omega)).set2 (by omega)).drew, by first | exact (((Only.refl _ _).setCell _ _).setCell _ _).drew | exact (((Only.refl _ _).setCell _ _).drew).setCell _ _⟩)

theorem force_bad (k : Nat) (n : Int) (w : World) (h1 : n < 0 ∨ 1000000 < n) :
    Calls Try.prog 8 #[.pointer (some ⟨k, 0, none⟩), .int .i64 n] w fun e w' => e = .returned (.int .i64 1) ∧ w = w' := by
  go_enter Try.func8, Try.ntmps8
  go_wp2
  all_goals (go_ret; exact ⟨rfl, rfl⟩)

set_option maxHeartbeats 400000 in
theorem force_ok (k : Nat) (r b t d n : Int) (w : World) (h : Bucket w k r b t d) (h1 : 0 ≤ n) (h2 : n ≤ 1000000) (h3 : 0 ≤ t) (h4 : t ≤ 1000000) (h7 : 0 ≤ d) (h8 : d ≤ 1000000) (h9 : 0 ≤ b) (h10 : b ≤ 1000000) :
    Calls Try.prog 8 #[.pointer (some ⟨k, 0, none⟩), .int .i64 n] w fun e w' => e = .returned (.int .i64 0) ∧ Bucket w' k r b (t - min n t) (min (d + n - min n t) b) ∧ Only k w w' := by
  obtain ⟨c0, c1, c2, c3, f0, f1, f2, f3⟩ := h.cells
  have H := Rp.hid h; clear h
  go_enter Try.func8, Try.ntmps8
  go_wp2
  all_goals go_region
  all_goals go_wp2
  all_goals (go_ret; exact ⟨rfl, by first | exact ((H.out.set2 (by omega)).drew.set3 (by omega)) | exact ((H.out.set2 (by omega)).set3 (by omega)).drew, by first | exact (((Only.refl _ _).setCell _ _).setCell _ _).drew | exact (((Only.refl _ _).setCell _ _).drew).setCell _ _⟩)


/-- TicksUntil's number -/
def ticks (r b t d n : Int) : Int := if n < 0 then 0 else if b < n then 0 else if n ≤ t then 0 else (n - t + d + r - 1) / r
def ticksE (b n : Int) : Int := if n < 0 then 1 else if b < n then 4 else 0

set_option maxHeartbeats 400000 in
theorem until_ok (k : Nat) (r b t d n : Int) (w : World) (h : Bucket w k r b t d) (h3 : 0 ≤ t) (h4 : t ≤ 1000000) (h5 : 1 ≤ r) (h6 : r ≤ 1000) (h7 : 0 ≤ d) (h8 : d ≤ 1000000) (h9 : 0 ≤ b) (h10 : b ≤ 1000000) (hn : InI64 n) :
    Calls Try.prog 9 #[.pointer (some ⟨k, 0, none⟩), .int .i64 n] w fun e w' => e = .returned (.tuple #[.int .i64 (ticks r b t d n), .int .i64 (ticksE b n)]) ∧ ∃ q, w' = w.drewN q := by
  obtain ⟨c0, c1, c2, c3, f0, f1, f2, f3⟩ := h.cells
  obtain ⟨hn1, hn2⟩ := hn
  have H := Rp.hid h; clear h
  by_cases g1 : n < 0
  · have F : Hid (ticks r b t d n = 0 ∧ ticksE b n = 1) := by constructor <;> simp [ticks, ticksE, g1]
    go_enter Try.func9, Try.ntmps9
    go_wp2
    go_ret2
    exact ⟨ret2 F.out.1.symm F.out.2.symm, 0, rfl⟩
  by_cases g2 : b < n
  · have F : Hid (ticks r b t d n = 0 ∧ ticksE b n = 4) := by constructor <;> simp [ticks, ticksE, g1, g2]
    go_enter Try.func9, Try.ntmps9
    go_wp2
    go_ret2
    exact ⟨ret2 F.out.1.symm F.out.2.symm, 0, rfl⟩
  by_cases g3 : n ≤ t
  · have F : Hid (ticks r b t d n = 0 ∧ ticksE b n = 0) := by constructor <;> simp [ticks, ticksE, g1, g2, g3]
    go_enter Try.func9, Try.ntmps9
    go_wp2
    go_ret2
    exact ⟨ret2 F.out.1.symm F.out.2.symm, 0, rfl⟩
  · have k1 : 0 ≤ n - t + d + r - 1 := by omega
    have k2 : n - t + d + r - 1 ≤ 9000000000 := by omega
    have F : Hid (ticks r b t d n = (n - t + d + r - 1) / r ∧ ticksE b n = 0) := by constructor <;> simp [ticks, ticksE, g1, g2, g3]
    go_enter Try.func9, Try.ntmps9
    go_wp2
    go_quiet (fail)
    go_wp2
    go_ret2
    exact ⟨ret2 F.out.1.symm F.out.2.symm, _, rfl⟩

theorem new_bad (a b : Int) (w : World) (h : a < 1 ∨ 1000 < a ∨ b < a ∨ 1000000 < b) :
    Calls Try.prog 4 #[.int .i64 a, .int .i64 b] w fun e w' => e = .returned (.tuple #[.pointer none, .int .i64 1]) ∧ w = w' := by
  by_cases h1 : a < 1
  · go_enter Try.func4, Try.ntmps4
    go_wp2
    go_ret2
    exact ⟨rfl, rfl⟩
  by_cases h2 : 1000 < a
  · go_enter Try.func4, Try.ntmps4
    go_wp2
    go_ret2
    exact ⟨rfl, rfl⟩
  by_cases h3 : b < a
  · go_enter Try.func4, Try.ntmps4
    go_wp2
    go_ret2
    exact ⟨rfl, rfl⟩
  · have h4 : 1000000 < b := by omega
    go_enter Try.func4, Try.ntmps4
    go_wp2
    go_ret2
    exact ⟨rfl, rfl⟩

theorem new_ok (a b : Int) (w : World) (h1 : 1 ≤ a) (h2 : a ≤ 1000) (h3 : a ≤ b) (h4 : b ≤ 1000000) :
    Calls Try.prog 4 #[.int .i64 a, .int .i64 b] w fun e w' => e = .returned (.tuple #[.pointer (some ⟨w.heap.size, 0, none⟩), .int .i64 0]) ∧
      w' = w.alloc (.cells #[.int .i64 a, .int .i64 b, .int .i64 b, .int .i64 0] 36) := by
  go_enter Try.func4, Try.ntmps4
  go_wp2
  go_ret2
  exact ⟨rfl, rfl⟩

/-- element i of an operation -/
theorem arg_any (op : List Int) (v : Value) (B : Nat) (i : Nat) (w : World) (h : Rep.is w B op [v]) (hi : i ≤ 100) :
    Calls Try.prog 6 #[v, .int .i64 i] w fun e w' => e = .returned (.int .i64 (op.getD i 0)) ∧ w = w' := by
  obtain ⟨A, cap, hv, h1, h2, h3, h4, h5⟩ := h
  simp only [List.cons.injEq, and_true] at hv
  subst hv
  have h3' : op.length * 8 ≤ reach := h3
  unfold reach at h3'
  by_cases hlt : i < op.length
  · obtain ⟨b, off, es, rfl, hb, ⟨rfl, hin⟩, hc⟩ := h5 i hlt
    have hc0 : w.cell? ⟨b, off + i, none⟩ = some (.int .i64 op[i]) := by have := hc 0 (by decide); simpa [show Rep.n Int = 1 from rfl] using this
    clear h5 hc h3
    go_enter Try.func6, Try.ntmps6
    go_wp2
    go_ret
    exact ⟨by simp [hlt], rfl⟩
  · clear h5 h3
    go_enter Try.func6, Try.ntmps6
    go_wp2
    go_ret
    exact ⟨by simp [hlt], rfl⟩

end Go.Proofs.Ytbhmaafneibdjaa
