/- Contracts of the library at this program. -/
import Derived.Shelf.Sort.Plain
import Derived.Shelf.Slices.In.SortNone
import Derived.Test.YtifcmomjjkbboabProg
namespace Go.Proofs
open Go.Shelf

def Try.lays189_ren : Go.Shelf.Ren := ⟨fun | 189 => 41 | 125 => 48 | 257 => 47 | 128 => 58 | 129 => 59 | 294 => 49 | 295 => 50 | 296 => 51 | 297 => 52 | 298 => 53 | 299 => 54 | 216 => 55 | 300 => 56 | 301 => 57 | 328 => 60 | 329 => 61 | 330 => 62 | 331 => 63 | 332 => 64 | 215 => 65 | 343 => 66 | n => n, fun | 28 => 34 | 3 => 3 | 46 => 69 | 0 => 0 | 51 => 107 | 53 => 109 | 4 => 4 | 183 => 99 | 182 => 98 | 131 => 104 | 5 => 5 | 9 => 9 | 218 => 110 | 222 => 114 | 228 => 116 | 229 => 84 | n => n, fun | n => n⟩
theorem Try.lays189 : Go.Proofs.Lays.n189 Try.prog Try.lays189_ren := {
 mixed := by kernel_rfl
 f125 := Try.func48.trans (congrArg some (by kernel_rfl))
 f128 := Try.func58.trans (congrArg some (by kernel_rfl))
 f129 := Try.func59.trans (congrArg some (by kernel_rfl))
 f189 := Try.func41.trans (congrArg some (by kernel_rfl))
 f215 := Try.func65.trans (congrArg some (by kernel_rfl))
 f216 := Try.func55.trans (congrArg some (by kernel_rfl))
 f257 := Try.func47.trans (congrArg some (by kernel_rfl))
 f294 := Try.func49.trans (congrArg some (by kernel_rfl))
 f295 := Try.func50.trans (congrArg some (by kernel_rfl))
 f296 := Try.func51.trans (congrArg some (by kernel_rfl))
 f297 := Try.func52.trans (congrArg some (by kernel_rfl))
 f298 := Try.func53.trans (congrArg some (by kernel_rfl))
 f299 := Try.func54.trans (congrArg some (by kernel_rfl))
 f300 := Try.func56.trans (congrArg some (by kernel_rfl))
 f301 := Try.func57.trans (congrArg some (by kernel_rfl))
 f328 := Try.func60.trans (congrArg some (by kernel_rfl))
 f329 := Try.func61.trans (congrArg some (by kernel_rfl))
 f330 := Try.func62.trans (congrArg some (by kernel_rfl))
 f331 := Try.func63.trans (congrArg some (by kernel_rfl))
 f332 := Try.func64.trans (congrArg some (by kernel_rfl))
 f343 := Try.func66.trans (congrArg some (by kernel_rfl))
 t0 := Try.underlying0
 a0 := Try.isAgg0
 z0 := Try.sizeOf0
 v0 := Try.zeroValue0
 t3 := Try.underlying3
 a3 := Try.isAgg3
 z3 := Try.sizeOf3
 v3 := Try.zeroValue3
 t4 := Try.underlying4
 a4 := Try.isAgg4
 z4 := Try.sizeOf4
 v4 := Try.zeroValue4
 t5 := Try.underlying5
 a5 := Try.isAgg5
 z5 := Try.sizeOf5
 v5 := Try.zeroValue5
 t9 := Try.underlying9
 a9 := Try.isAgg9
 z9 := Try.sizeOf9
 v9 := Try.zeroValue9
 t28 := Try.underlying34
 a28 := Try.isAgg34
 z28 := Try.sizeOf34
 v28 := Try.zeroValue34
 t46 := Try.underlying69
 a46 := Try.isAgg69
 z46 := Try.sizeOf69
 v46 := Try.zeroValue69
 t51 := Try.underlying107
 a51 := Try.isAgg107
 z51 := Try.sizeOf107
 v51 := Try.zeroValue107
 t53 := Try.underlying109
 a53 := Try.isAgg109
 z53 := Try.sizeOf109
 v53 := Try.zeroValue109
 t131 := Try.underlying104
 a131 := Try.isAgg104
 z131 := Try.sizeOf104
 v131 := Try.zeroValue104
 t182 := Try.underlying98
 a182 := Try.isAgg98
 z182 := Try.sizeOf98
 v182 := Try.zeroValue98
 t183 := Try.underlying99
 a183 := Try.isAgg99
 z183 := Try.sizeOf99
 v183 := Try.zeroValue99
 t218 := Try.underlying110
 a218 := Try.isAgg110
 z218 := Try.sizeOf110
 v218 := Try.zeroValue110
 t222 := Try.underlying114
 a222 := Try.isAgg114
 z222 := Try.sizeOf114
 v222 := Try.zeroValue114
 t228 := Try.underlying116
 a228 := Try.isAgg116
 z228 := Try.sizeOf116
 v228 := Try.zeroValue116
 t229 := Try.underlying84
 a229 := Try.isAgg84
 z229 := Try.sizeOf84
 v229 := Try.zeroValue84 }
end Go.Proofs
