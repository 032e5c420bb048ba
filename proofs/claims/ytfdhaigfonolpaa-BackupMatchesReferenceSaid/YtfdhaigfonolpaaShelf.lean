/-
  DERIVED: THE SHELF's CONTRACTS AT THIS DUMP, IN PLAIN WORDS (tools/lay-plain.mjs out of 'YtfdhaigfonolpaaShelf.lean', which tools/lay-shelf.mjs wrote): THE SAME DECLARATIONS UNDER THE SAME NAMES: 'import', 'namespace', 'open', 'def', 'theorem' AND NOTHING ELSE: no command of the shelf's: FOR A HAND-IN. Each laying: the table of numbers ('.._ren') and one theorem, a field a fact of the dump's own or the kernel's comparison; each contract: ONE APPLICATION.
-/
import Derived.Shelf.Small.Bits
import Derived.Shelf.Small.Strs
import Derived.Shelf.Strconv.Itoa0
import Derived.Ground.SlgnProg
import Derived.Shelf.SlicesQ.Reverse
import Derived.Ground.SlsfProg
import Derived.Shelf.SlSortCmp.InsertionK
import Derived.Shelf.SlSortCmp.SiftDownK
import Derived.Shelf.SlSortCmp.HeapSortK
import Derived.Shelf.SlSortCmp.MedianK
import Derived.Shelf.SlSortCmp.PivotK
import Derived.Shelf.SlSortCmp.ReverseRangeK
import Derived.Shelf.SlSortCmp.PartialInsertionK
import Derived.Shelf.SlSortCmp.PartitionEqualK
import Derived.Shelf.SlSortCmp.PartitionK
import Derived.Shelf.SlSortCmp.PdqK
import Derived.Shelf.SlSortCmp.WholeK
import Derived.Shelf.SlSortCmp.NoneTotal
import Derived.Test.YtfdhaigfonolpaaProg
namespace Go.Proofs
open Go.Shelf
def Try.lays213_ren : Go.Shelf.Ren := ⟨fun | 213 => 48 | 265 => 54 | n => n, fun | 9 => 9 | 3 => 3 | n => n, fun | n => n⟩
theorem Try.lays213 : Go.Proofs.Lays.n213 Try.prog Try.lays213_ren := {
 mixed := by kernel_rfl
 f213 := Try.func48.trans (congrArg some (by kernel_rfl))
 f265 := Try.func54.trans (congrArg some (by kernel_rfl))
 t3 := Try.underlying3
 a3 := Try.isAgg3
 z3 := Try.sizeOf3
 v3 := Try.zeroValue3
 t9 := Try.underlying9
 a9 := Try.isAgg9
 z9 := Try.sizeOf9
 v9 := Try.zeroValue9 }
open Go.RowKit in
/-- internal/bytealg.CompareString (what strings.Compare calls): IT RETURNS 'Lib.compareBytes a b'; the world is as it was. (LAID: no walk: one application.) -/
theorem Try.bytealg_CompareString (a b : ByteArray) (w : World) :
  Calls Try.prog 48 #[.string a, .string b] w fun e w' => e = .returned (.int .i64 (Lib.compareBytes a.data.toList b.data.toList)) ∧ w' = w := Any.bytealg_CompareString Try.lays213 a b w
def Try.laysSlF06_f43_ren : Go.Shelf.Ren := ⟨fun | 6 => 43 | 15 => 52 | 14 => 51 | 28 => 64 | 29 => 65 | 20 => 56 | 21 => 57 | 22 => 58 | 23 => 59 | 24 => 60 | 25 => 61 | 26 => 62 | 27 => 63 | 46 => 67 | 47 => 68 | 48 => 69 | 49 => 70 | 50 => 71 | 57 => 72 | n => n, fun | 22 => 55 | 24 => 76 | 25 => 97 | 3 => 3 | 39 => 74 | 0 => 0 | 53 => 110 | 55 => 112 | 4 => 4 | 46 => 104 | 45 => 103 | 50 => 85 | 5 => 5 | 9 => 9 | 66 => 114 | 70 => 118 | 76 => 120 | 77 => 121 | n => n, fun | n => n⟩
theorem Try.laysSlF06_f43 : Go.Proofs.SlLaysF0.n6 Try.prog Try.laysSlF06_f43_ren := {
 mixed := by kernel_rfl
 f6 := ⟨Try.f43.name, by decide, Try.func43.trans (congrArg some (by kernel_rfl))⟩
 f14 := ⟨Try.f51.name, by decide, Try.func51.trans (congrArg some (by kernel_rfl))⟩
 f15 := Try.func52.trans (congrArg some (by kernel_rfl))
 f20 := ⟨Try.f56.name, by decide, Try.func56.trans (congrArg some (by kernel_rfl))⟩
 f21 := ⟨Try.f57.name, by decide, Try.func57.trans (congrArg some (by kernel_rfl))⟩
 f22 := ⟨Try.f58.name, by decide, Try.func58.trans (congrArg some (by kernel_rfl))⟩
 f23 := ⟨Try.f59.name, by decide, Try.func59.trans (congrArg some (by kernel_rfl))⟩
 f24 := ⟨Try.f60.name, by decide, Try.func60.trans (congrArg some (by kernel_rfl))⟩
 f25 := ⟨Try.f61.name, by decide, Try.func61.trans (congrArg some (by kernel_rfl))⟩
 f26 := ⟨Try.f62.name, by decide, Try.func62.trans (congrArg some (by kernel_rfl))⟩
 f27 := ⟨Try.f63.name, by decide, Try.func63.trans (congrArg some (by kernel_rfl))⟩
 f28 := Try.func64.trans (congrArg some (by kernel_rfl))
 f29 := Try.func65.trans (congrArg some (by kernel_rfl))
 f46 := ⟨Try.f67.name, by decide, Try.func67.trans (congrArg some (by kernel_rfl))⟩
 f47 := Try.func68.trans (congrArg some (by kernel_rfl))
 f48 := Try.func69.trans (congrArg some (by kernel_rfl))
 f49 := ⟨Try.f70.name, by decide, Try.func70.trans (congrArg some (by kernel_rfl))⟩
 f50 := ⟨Try.f71.name, by decide, Try.func71.trans (congrArg some (by kernel_rfl))⟩
 f57 := ⟨Try.f72.name, by decide, Try.func72.trans (congrArg some (by kernel_rfl))⟩
 t0 := Try.underlying0
 a0 := Try.isAgg0
 z0 := Try.sizeOf0
 v0 := Try.zeroValue0
 t3 := Try.underlying3
 a3 := Try.isAgg3
 z3 := Try.sizeOf3
 v3 := Try.zeroValue3
 t4 := Try.underlying4
 a4 := Try.isAgg4
 z4 := Try.sizeOf4
 v4 := Try.zeroValue4
 t5 := Try.underlying5
 a5 := Try.isAgg5
 z5 := Try.sizeOf5
 v5 := Try.zeroValue5
 t9 := Try.underlying9
 a9 := Try.isAgg9
 z9 := Try.sizeOf9
 v9 := Try.zeroValue9
 t22 := Try.underlying55
 a22 := Try.isAgg55
 z22 := Try.sizeOf55
 v22 := Try.zeroValue55
 t25 := Try.underlying97
 a25 := Try.isAgg97
 z25 := Try.sizeOf97
 v25 := Try.zeroValue97
 t39 := Try.underlying74
 a39 := Try.isAgg74
 z39 := Try.sizeOf74
 v39 := Try.zeroValue74
 t45 := Try.underlying103
 a45 := Try.isAgg103
 z45 := Try.sizeOf103
 v45 := Try.zeroValue103
 t46 := Try.underlying104
 a46 := Try.isAgg104
 z46 := Try.sizeOf104
 v46 := Try.zeroValue104
 t50 := Try.underlying85
 a50 := Try.isAgg85
 z50 := Try.sizeOf85
 v50 := Try.zeroValue85
 t53 := Try.underlying110
 a53 := Try.isAgg110
 z53 := Try.sizeOf110
 v53 := Try.zeroValue110
 t55 := Try.underlying112
 a55 := Try.isAgg112
 z55 := Try.sizeOf112
 v55 := Try.zeroValue112
 t66 := Try.underlying114
 a66 := Try.isAgg114
 z66 := Try.sizeOf114
 v66 := Try.zeroValue114
 t70 := Try.underlying118
 a70 := Try.isAgg118
 z70 := Try.sizeOf118
 v70 := Try.zeroValue118
 t76 := Try.underlying120
 a76 := Try.isAgg120
 z76 := Try.sizeOf120
 v76 := Try.zeroValue120
 t77 := Try.underlying121
 a77 := Try.isAgg121
 z77 := Try.sizeOf121
 v77 := Try.zeroValue121 }
end Go.Proofs
