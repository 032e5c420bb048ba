/- Contracts of the library at this program. -/
import Derived.Shelf.SlMaps.Clone
import Derived.Ground.SlmcProg
import Derived.Shelf.SlIter.Nil
import Derived.Shelf.SortM.Plain
import Derived.Shelf.SortM.SortNone
import Derived.Ground.GgzProg
import Derived.Ground.SlgmProg
import Derived.Shelf.Small.Bits
import Derived.Shelf.Small.Strs
import Derived.Shelf.Strconv.Itoa0
import Derived.Shelf.Sort.Plain
import Derived.Shelf.Slices.In.SortNone
import Derived.Test.YtdiekinmoklonacProg
namespace Go.Proofs
open Go.Shelf

def Try.lays213_ren : Go.Shelf.Ren := ⟨fun | 213 => 33 | 265 => 38 | n => n, fun | 9 => 9 | 3 => 3 | n => n, fun | n => n⟩
theorem Try.lays213 : Go.Proofs.Lays.n213 Try.prog Try.lays213_ren := {
 mixed := by kernel_rfl
 f213 := Try.func33.trans (congrArg some (by kernel_rfl))
 f265 := Try.func38.trans (congrArg some (by kernel_rfl))
 t3 := Try.underlying3
 a3 := Try.isAgg3
 z3 := Try.sizeOf3
 v3 := Try.zeroValue3
 t9 := Try.underlying9
 a9 := Try.isAgg9
 z9 := Try.sizeOf9
 v9 := Try.zeroValue9 }
open Go.RowKit in
/-- internal/bytealg.CompareString (what strings.Compare calls): IT RETURNS 'Lib.compareBytes a b'; the world is as it was. (LAID: no walk: one application.) -/
theorem Try.bytealg_CompareString (a b : ByteArray) (w : World) :
  Calls Try.prog 33 #[.string a, .string b] w fun e w' => e = .returned (.int .i64 (Lib.compareBytes a.data.toList b.data.toList)) ∧ w' = w := Any.bytealg_CompareString Try.lays213 a b w
def Try.keys21_ren : Go.Shelf.Ren := ⟨fun | 7 => 21 | 10 => 32 | n => n, fun | 23 => 32 | 26 => 9 | 3 => 3 | 28 => 57 | 0 => 0 | 27 => 56 | 33 => 67 | 4 => 4 | n => n, fun | n => n⟩
theorem Try.keys21 : Go.Proofs.SlLaysZ.n7 Try.prog Try.keys21_ren := {
 mixed := by kernel_rfl
 f7 := ⟨Try.f21.name, by decide, Try.func21.trans (congrArg some (by kernel_rfl))⟩
 f10 := ⟨Try.f32.name, by decide, Try.func32.trans (congrArg some (by kernel_rfl))⟩
 t0 := Try.underlying0
 a0 := Try.isAgg0
 z0 := Try.sizeOf0
 v0 := Try.zeroValue0
 t4 := Try.underlying4
 a4 := Try.isAgg4
 z4 := Try.sizeOf4
 v4 := Try.zeroValue4
 t23 := Try.underlying32
 a23 := Try.isAgg32
 z23 := Try.sizeOf32
 v23 := Try.zeroValue32
 t26 := Try.underlying9
 a26 := Try.isAgg9
 z26 := Try.sizeOf9
 v26 := Try.zeroValue9
 t27 := Try.underlying56
 a27 := Try.isAgg56
 z27 := Try.sizeOf56
 v27 := Try.zeroValue56
 t28 := Try.underlying57
 a28 := Try.isAgg57
 z28 := Try.sizeOf57
 v28 := Try.zeroValue57
 t33 := Try.underlying67
 a33 := Try.isAgg67
 z33 := Try.sizeOf67
 v33 := Try.zeroValue67 }
def Try.sorted20_ren : Go.Shelf.Ren := ⟨fun | 6 => 20 | 8 => 30 | 9 => 31 | 11 => 35 | 13 => 37 | 12 => 36 | 23 => 49 | 24 => 50 | 14 => 40 | 15 => 41 | 16 => 42 | 17 => 43 | 18 => 44 | 19 => 45 | 20 => 46 | 21 => 47 | 22 => 48 | 25 => 51 | 26 => 52 | 27 => 53 | 28 => 54 | 29 => 55 | 30 => 56 | 31 => 57 | n => n, fun | 26 => 9 | 28 => 57 | 24 => 24 | 0 => 0 | 3 => 3 | 37 => 50 | 48 => 81 | 50 => 83 | 4 => 4 | 40 => 74 | 39 => 73 | 45 => 37 | 5 => 5 | 9 => 9 | 51 => 84 | 55 => 88 | 57 => 90 | 58 => 91 | 33 => 67 | n => n, fun | n => n⟩
theorem Try.sorted20 : Go.Proofs.SlLaysZ.n6 Try.prog Try.sorted20_ren := {
 mixed := by kernel_rfl
 f6 := ⟨Try.f20.name, by decide, Try.func20.trans (congrArg some (by kernel_rfl))⟩
 f8 := ⟨Try.f30.name, by decide, Try.func30.trans (congrArg some (by kernel_rfl))⟩
 f11 := ⟨Try.f35.name, by decide, Try.func35.trans (congrArg some (by kernel_rfl))⟩
 t0 := Try.underlying0
 a0 := Try.isAgg0
 z0 := Try.sizeOf0
 v0 := Try.zeroValue0
 t24 := Try.underlying24
 a24 := Try.isAgg24
 z24 := Try.sizeOf24
 v24 := Try.zeroValue24
 t26 := Try.underlying9
 a26 := Try.isAgg9
 z26 := Try.sizeOf9
 v26 := Try.zeroValue9
 t28 := Try.underlying57
 a28 := Try.isAgg57
 z28 := Try.sizeOf57
 v28 := Try.zeroValue57
 i26 := by kernel_rfl }
def Try.sort31_ren : Go.Shelf.Ren := ⟨fun | 6 => 31 | 8 => 37 | 9 => 36 | 19 => 49 | 20 => 50 | 21 => 40 | 22 => 41 | 23 => 42 | 24 => 43 | 25 => 44 | 26 => 45 | 27 => 46 | 28 => 47 | 29 => 48 | 36 => 51 | 31 => 52 | 32 => 53 | 37 => 54 | 38 => 55 | 39 => 56 | 41 => 57 | n => n, fun | 27 => 24 | 29 => 9 | 3 => 3 | 32 => 50 | 26 => 24 | 0 => 0 | 44 => 81 | 46 => 83 | 4 => 4 | 36 => 74 | 35 => 73 | 41 => 37 | 5 => 5 | 9 => 9 | 53 => 84 | 57 => 88 | 63 => 90 | 64 => 91 | n => n, fun | n => n⟩
theorem Try.sort31 : Go.Proofs.SlLaysM.n6 Try.prog Try.sort31_ren := {
 mixed := by kernel_rfl
 f6 := ⟨Try.f31.name, by decide, Try.func31.trans (congrArg some (by kernel_rfl))⟩
 f8 := Try.func37.trans (congrArg some (by kernel_rfl))
 f9 := ⟨Try.f36.name, by decide, Try.func36.trans (congrArg some (by kernel_rfl))⟩
 f19 := Try.func49.trans (congrArg some (by kernel_rfl))
 f20 := Try.func50.trans (congrArg some (by kernel_rfl))
 f21 := ⟨Try.f40.name, by decide, Try.func40.trans (congrArg some (by kernel_rfl))⟩
 f22 := ⟨Try.f41.name, by decide, Try.func41.trans (congrArg some (by kernel_rfl))⟩
 f23 := ⟨Try.f42.name, by decide, Try.func42.trans (congrArg some (by kernel_rfl))⟩
 f24 := ⟨Try.f43.name, by decide, Try.func43.trans (congrArg some (by kernel_rfl))⟩
 f25 := ⟨Try.f44.name, by decide, Try.func44.trans (congrArg some (by kernel_rfl))⟩
 f26 := ⟨Try.f45.name, by decide, Try.func45.trans (congrArg some (by kernel_rfl))⟩
 f27 := ⟨Try.f46.name, by decide, Try.func46.trans (congrArg some (by kernel_rfl))⟩
 f28 := ⟨Try.f47.name, by decide, Try.func47.trans (congrArg some (by kernel_rfl))⟩
 f29 := ⟨Try.f48.name, by decide, Try.func48.trans (congrArg some (by kernel_rfl))⟩
 f31 := Try.func52.trans (congrArg some (by kernel_rfl))
 f32 := Try.func53.trans (congrArg some (by kernel_rfl))
 f36 := ⟨Try.f51.name, by decide, Try.func51.trans (congrArg some (by kernel_rfl))⟩
 f37 := ⟨Try.f54.name, by decide, Try.func54.trans (congrArg some (by kernel_rfl))⟩
 f38 := ⟨Try.f55.name, by decide, Try.func55.trans (congrArg some (by kernel_rfl))⟩
 f39 := ⟨Try.f56.name, by decide, Try.func56.trans (congrArg some (by kernel_rfl))⟩
 f41 := ⟨Try.f57.name, by decide, Try.func57.trans (congrArg some (by kernel_rfl))⟩
 t0 := Try.underlying0
 a0 := Try.isAgg0
 z0 := Try.sizeOf0
 v0 := Try.zeroValue0
 t3 := Try.underlying3
 a3 := Try.isAgg3
 z3 := Try.sizeOf3
 v3 := Try.zeroValue3
 t4 := Try.underlying4
 a4 := Try.isAgg4
 z4 := Try.sizeOf4
 v4 := Try.zeroValue4
 t5 := Try.underlying5
 a5 := Try.isAgg5
 z5 := Try.sizeOf5
 v5 := Try.zeroValue5
 t9 := Try.underlying9
 a9 := Try.isAgg9
 z9 := Try.sizeOf9
 v9 := Try.zeroValue9
 t26 := Try.underlying24
 a26 := Try.isAgg24
 z26 := Try.sizeOf24
 v26 := Try.zeroValue24
 t27 := Try.underlying24
 a27 := Try.isAgg24
 z27 := Try.sizeOf24
 v27 := Try.zeroValue24
 t29 := Try.underlying9
 a29 := Try.isAgg9
 z29 := Try.sizeOf9
 v29 := Try.zeroValue9
 t32 := Try.underlying50
 a32 := Try.isAgg50
 z32 := Try.sizeOf50
 v32 := Try.zeroValue50
 t35 := Try.underlying73
 a35 := Try.isAgg73
 z35 := Try.sizeOf73
 v35 := Try.zeroValue73
 t36 := Try.underlying74
 a36 := Try.isAgg74
 z36 := Try.sizeOf74
 v36 := Try.zeroValue74
 t41 := Try.underlying37
 a41 := Try.isAgg37
 z41 := Try.sizeOf37
 v41 := Try.zeroValue37
 t44 := Try.underlying81
 a44 := Try.isAgg81
 z44 := Try.sizeOf81
 v44 := Try.zeroValue81
 t46 := Try.underlying83
 a46 := Try.isAgg83
 z46 := Try.sizeOf83
 v46 := Try.zeroValue83
 t53 := Try.underlying84
 a53 := Try.isAgg84
 z53 := Try.sizeOf84
 v53 := Try.zeroValue84
 t57 := Try.underlying88
 a57 := Try.isAgg88
 z57 := Try.sizeOf88
 v57 := Try.zeroValue88
 t63 := Try.underlying90
 a63 := Try.isAgg90
 z63 := Try.sizeOf90
 v63 := Try.zeroValue90
 t64 := Try.underlying91
 a64 := Try.isAgg91
 z64 := Try.sizeOf91
 v64 := Try.zeroValue91 }
def Try.cloneM_ren : Go.Shelf.Ren := ⟨fun | 5 => 10 | 7 => 18 | n => n, fun | 23 => 32 | 25 => 9 | 3 => 3 | 4 => 4 | 20 => 20 | n => n, fun | n => n⟩
theorem Try.cloneM : Go.Proofs.SlLaysW.n5 Try.prog Try.cloneM_ren := {
 mixed := by kernel_rfl
 f5 := ⟨Try.f10.name, by decide, Try.func10.trans (congrArg some (by kernel_rfl))⟩
 f7 := Try.func18.trans (congrArg some (by kernel_rfl))
 t4 := Try.underlying4
 a4 := Try.isAgg4
 z4 := Try.sizeOf4
 v4 := Try.zeroValue4
 t20 := Try.underlying20
 a20 := Try.isAgg20
 z20 := Try.sizeOf20
 v20 := Try.zeroValue20
 t23 := Try.underlying32
 a23 := Try.isAgg32
 z23 := Try.sizeOf32
 v23 := Try.zeroValue32 }
end Go.Proofs
