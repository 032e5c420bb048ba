/- Contracts of the library at this program. -/
import Derived.Shelf.Small.Bits
import Derived.Shelf.Small.Strs
import Derived.Shelf.Strconv.Itoa0
import Derived.Shelf.Sort.Plain
import Derived.Shelf.Slices.In.SortNone
import Derived.Ground.SlsfProg
import Derived.Shelf.SlSortCmp.InsertionK
import Derived.Shelf.SlSortCmp.SiftDownK
import Derived.Shelf.SlSortCmp.HeapSortK
import Derived.Shelf.SlSortCmp.MedianK
import Derived.Shelf.SlSortCmp.PivotK
import Derived.Shelf.SlSortCmp.ReverseRangeK
import Derived.Shelf.SlSortCmp.PartialInsertionK
import Derived.Shelf.SlSortCmp.PartitionEqualK
import Derived.Shelf.SlSortCmp.PartitionK
import Derived.Shelf.SlSortCmp.PdqK
import Derived.Shelf.SlSortCmp.WholeK
import Derived.Shelf.SlSortCmp.NoneTotal
import Derived.Test.YtdiekinmoklonaaProg
namespace Go.Proofs
open Go.Shelf

def Try.lays213_ren : Go.Shelf.Ren := ⟨fun | 213 => 59 | 265 => 79 | n => n, fun | 9 => 9 | 3 => 3 | n => n, fun | n => n⟩
theorem Try.lays213 : Go.Proofs.Lays.n213 Try.prog Try.lays213_ren := {
 mixed := by kernel_rfl
 f213 := Try.func59.trans (congrArg some (by kernel_rfl))
 f265 := Try.func79.trans (congrArg some (by kernel_rfl))
 t3 := Try.underlying3
 a3 := Try.isAgg3
 z3 := Try.sizeOf3
 v3 := Try.zeroValue3
 t9 := Try.underlying9
 a9 := Try.isAgg9
 z9 := Try.sizeOf9
 v9 := Try.zeroValue9 }
open Go.RowKit in
/-- internal/bytealg.CompareString (what strings.Compare calls): IT RETURNS 'Lib.compareBytes a b'; the world is as it was. (LAID: no walk: one application.) -/
theorem Try.bytealg_CompareString (a b : ByteArray) (w : World) :
  Calls Try.prog 59 #[.string a, .string b] w fun e w' => e = .returned (.int .i64 (Lib.compareBytes a.data.toList b.data.toList)) ∧ w' = w := Any.bytealg_CompareString Try.lays213 a b w
def Try.lays106_ren : Go.Shelf.Ren := ⟨fun | 106 => 51 | 213 => 59 | 265 => 79 | n => n, fun | 9 => 9 | 3 => 3 | n => n, fun | n => n⟩
theorem Try.lays106 : Go.Proofs.Lays.n106 Try.prog Try.lays106_ren := {
 mixed := by kernel_rfl
 f106 := Try.func51.trans (congrArg some (by kernel_rfl))
 f213 := Try.func59.trans (congrArg some (by kernel_rfl))
 f265 := Try.func79.trans (congrArg some (by kernel_rfl))
 t3 := Try.underlying3
 a3 := Try.isAgg3
 z3 := Try.sizeOf3
 v3 := Try.zeroValue3
 t9 := Try.underlying9
 a9 := Try.isAgg9
 z9 := Try.sizeOf9
 v9 := Try.zeroValue9 }
open Go.RowKit in
/-- strings.Compare: "Compare returns an integer comparing two strings lexicographically. The result will be 0 if a == b, -1 if a < b, and +1 if a > b.": IT RETURNS 'Lib.compareBytes a b'; the world is as it was. (LAID: no walk: one application.) -/
theorem Try.strings_Compare (a b : ByteArray) (w : World) :
  Calls Try.prog 51 #[.string a, .string b] w fun e w' => e = .returned (.int .i64 (Lib.compareBytes a.data.toList b.data.toList)) ∧ w' = w := Any.strings_Compare Try.lays106 a b w
def Try.lays189_ren : Go.Shelf.Ren := ⟨fun | 189 => 43 | 125 => 56 | 257 => 55 | 128 => 69 | 129 => 70 | 294 => 60 | 295 => 61 | 296 => 62 | 297 => 63 | 298 => 64 | 299 => 65 | 216 => 66 | 300 => 67 | 301 => 68 | 328 => 80 | 329 => 81 | 330 => 82 | 331 => 83 | 332 => 84 | 215 => 85 | 343 => 89 | n => n, fun | 28 => 34 | 3 => 3 | 46 => 57 | 0 => 0 | 51 => 91 | 53 => 93 | 4 => 4 | 183 => 84 | 182 => 83 | 131 => 88 | 5 => 5 | 9 => 9 | 218 => 101 | 222 => 105 | 228 => 110 | 229 => 111 | n => n, fun | n => n⟩
theorem Try.lays189 : Go.Proofs.Lays.n189 Try.prog Try.lays189_ren := {
 mixed := by kernel_rfl
 f125 := Try.func56.trans (congrArg some (by kernel_rfl))
 f128 := Try.func69.trans (congrArg some (by kernel_rfl))
 f129 := Try.func70.trans (congrArg some (by kernel_rfl))
 f189 := Try.func43.trans (congrArg some (by kernel_rfl))
 f215 := Try.func85.trans (congrArg some (by kernel_rfl))
 f216 := Try.func66.trans (congrArg some (by kernel_rfl))
 f257 := Try.func55.trans (congrArg some (by kernel_rfl))
 f294 := Try.func60.trans (congrArg some (by kernel_rfl))
 f295 := Try.func61.trans (congrArg some (by kernel_rfl))
 f296 := Try.func62.trans (congrArg some (by kernel_rfl))
 f297 := Try.func63.trans (congrArg some (by kernel_rfl))
 f298 := Try.func64.trans (congrArg some (by kernel_rfl))
 f299 := Try.func65.trans (congrArg some (by kernel_rfl))
 f300 := Try.func67.trans (congrArg some (by kernel_rfl))
 f301 := Try.func68.trans (congrArg some (by kernel_rfl))
 f328 := Try.func80.trans (congrArg some (by kernel_rfl))
 f329 := Try.func81.trans (congrArg some (by kernel_rfl))
 f330 := Try.func82.trans (congrArg some (by kernel_rfl))
 f331 := Try.func83.trans (congrArg some (by kernel_rfl))
 f332 := Try.func84.trans (congrArg some (by kernel_rfl))
 f343 := Try.func89.trans (congrArg some (by kernel_rfl))
 t0 := Try.underlying0
 a0 := Try.isAgg0
 z0 := Try.sizeOf0
 v0 := Try.zeroValue0
 t3 := Try.underlying3
 a3 := Try.isAgg3
 z3 := Try.sizeOf3
 v3 := Try.zeroValue3
 t4 := Try.underlying4
 a4 := Try.isAgg4
 z4 := Try.sizeOf4
 v4 := Try.zeroValue4
 t5 := Try.underlying5
 a5 := Try.isAgg5
 z5 := Try.sizeOf5
 v5 := Try.zeroValue5
 t9 := Try.underlying9
 a9 := Try.isAgg9
 z9 := Try.sizeOf9
 v9 := Try.zeroValue9
 t28 := Try.underlying34
 a28 := Try.isAgg34
 z28 := Try.sizeOf34
 v28 := Try.zeroValue34
 t46 := Try.underlying57
 a46 := Try.isAgg57
 z46 := Try.sizeOf57
 v46 := Try.zeroValue57
 t51 := Try.underlying91
 a51 := Try.isAgg91
 z51 := Try.sizeOf91
 v51 := Try.zeroValue91
 t53 := Try.underlying93
 a53 := Try.isAgg93
 z53 := Try.sizeOf93
 v53 := Try.zeroValue93
 t131 := Try.underlying88
 a131 := Try.isAgg88
 z131 := Try.sizeOf88
 v131 := Try.zeroValue88
 t182 := Try.underlying83
 a182 := Try.isAgg83
 z182 := Try.sizeOf83
 v182 := Try.zeroValue83
 t183 := Try.underlying84
 a183 := Try.isAgg84
 z183 := Try.sizeOf84
 v183 := Try.zeroValue84
 t218 := Try.underlying101
 a218 := Try.isAgg101
 z218 := Try.sizeOf101
 v218 := Try.zeroValue101
 t222 := Try.underlying105
 a222 := Try.isAgg105
 z222 := Try.sizeOf105
 v222 := Try.zeroValue105
 t228 := Try.underlying110
 a228 := Try.isAgg110
 z228 := Try.sizeOf110
 v228 := Try.zeroValue110
 t229 := Try.underlying111
 a229 := Try.isAgg111
 z229 := Try.sizeOf111
 v229 := Try.zeroValue111 }
def Try.laysSlF06_f49_ren : Go.Shelf.Ren := ⟨fun | 6 => 49 | 15 => 56 | 14 => 58 | 28 => 69 | 29 => 70 | 20 => 71 | 21 => 72 | 22 => 73 | 23 => 74 | 24 => 75 | 25 => 76 | 26 => 77 | 27 => 78 | 46 => 86 | 47 => 81 | 48 => 82 | 49 => 87 | 50 => 88 | 57 => 90 | n => n, fun | 22 => 46 | 24 => 29 | 25 => 76 | 3 => 3 | 39 => 57 | 0 => 0 | 53 => 91 | 55 => 93 | 4 => 4 | 46 => 84 | 45 => 83 | 50 => 88 | 5 => 5 | 9 => 9 | 66 => 101 | 70 => 105 | 76 => 110 | 77 => 111 | n => n, fun | n => n⟩
theorem Try.laysSlF06_f49 : Go.Proofs.SlLaysF0.n6 Try.prog Try.laysSlF06_f49_ren := {
 mixed := by kernel_rfl
 f6 := ⟨Try.f49.name, by decide, Try.func49.trans (congrArg some (by kernel_rfl))⟩
 f14 := ⟨Try.f58.name, by decide, Try.func58.trans (congrArg some (by kernel_rfl))⟩
 f15 := Try.func56.trans (congrArg some (by kernel_rfl))
 f20 := ⟨Try.f71.name, by decide, Try.func71.trans (congrArg some (by kernel_rfl))⟩
 f21 := ⟨Try.f72.name, by decide, Try.func72.trans (congrArg some (by kernel_rfl))⟩
 f22 := ⟨Try.f73.name, by decide, Try.func73.trans (congrArg some (by kernel_rfl))⟩
 f23 := ⟨Try.f74.name, by decide, Try.func74.trans (congrArg some (by kernel_rfl))⟩
 f24 := ⟨Try.f75.name, by decide, Try.func75.trans (congrArg some (by kernel_rfl))⟩
 f25 := ⟨Try.f76.name, by decide, Try.func76.trans (congrArg some (by kernel_rfl))⟩
 f26 := ⟨Try.f77.name, by decide, Try.func77.trans (congrArg some (by kernel_rfl))⟩
 f27 := ⟨Try.f78.name, by decide, Try.func78.trans (congrArg some (by kernel_rfl))⟩
 f28 := Try.func69.trans (congrArg some (by kernel_rfl))
 f29 := Try.func70.trans (congrArg some (by kernel_rfl))
 f46 := ⟨Try.f86.name, by decide, Try.func86.trans (congrArg some (by kernel_rfl))⟩
 f47 := Try.func81.trans (congrArg some (by kernel_rfl))
 f48 := Try.func82.trans (congrArg some (by kernel_rfl))
 f49 := ⟨Try.f87.name, by decide, Try.func87.trans (congrArg some (by kernel_rfl))⟩
 f50 := ⟨Try.f88.name, by decide, Try.func88.trans (congrArg some (by kernel_rfl))⟩
 f57 := ⟨Try.f90.name, by decide, Try.func90.trans (congrArg some (by kernel_rfl))⟩
 t0 := Try.underlying0
 a0 := Try.isAgg0
 z0 := Try.sizeOf0
 v0 := Try.zeroValue0
 t3 := Try.underlying3
 a3 := Try.isAgg3
 z3 := Try.sizeOf3
 v3 := Try.zeroValue3
 t4 := Try.underlying4
 a4 := Try.isAgg4
 z4 := Try.sizeOf4
 v4 := Try.zeroValue4
 t5 := Try.underlying5
 a5 := Try.isAgg5
 z5 := Try.sizeOf5
 v5 := Try.zeroValue5
 t9 := Try.underlying9
 a9 := Try.isAgg9
 z9 := Try.sizeOf9
 v9 := Try.zeroValue9
 t22 := Try.underlying46
 a22 := Try.isAgg46
 z22 := Try.sizeOf46
 v22 := Try.zeroValue46
 t25 := Try.underlying76
 a25 := Try.isAgg76
 z25 := Try.sizeOf76
 v25 := Try.zeroValue76
 t39 := Try.underlying57
 a39 := Try.isAgg57
 z39 := Try.sizeOf57
 v39 := Try.zeroValue57
 t45 := Try.underlying83
 a45 := Try.isAgg83
 z45 := Try.sizeOf83
 v45 := Try.zeroValue83
 t46 := Try.underlying84
 a46 := Try.isAgg84
 z46 := Try.sizeOf84
 v46 := Try.zeroValue84
 t50 := Try.underlying88
 a50 := Try.isAgg88
 z50 := Try.sizeOf88
 v50 := Try.zeroValue88
 t53 := Try.underlying91
 a53 := Try.isAgg91
 z53 := Try.sizeOf91
 v53 := Try.zeroValue91
 t55 := Try.underlying93
 a55 := Try.isAgg93
 z55 := Try.sizeOf93
 v55 := Try.zeroValue93
 t66 := Try.underlying101
 a66 := Try.isAgg101
 z66 := Try.sizeOf101
 v66 := Try.zeroValue101
 t70 := Try.underlying105
 a70 := Try.isAgg105
 z70 := Try.sizeOf105
 v70 := Try.zeroValue105
 t76 := Try.underlying110
 a76 := Try.isAgg110
 z76 := Try.sizeOf110
 v76 := Try.zeroValue110
 t77 := Try.underlying111
 a77 := Try.isAgg111
 z77 := Try.sizeOf111
 v77 := Try.zeroValue111 }
end Go.Proofs
