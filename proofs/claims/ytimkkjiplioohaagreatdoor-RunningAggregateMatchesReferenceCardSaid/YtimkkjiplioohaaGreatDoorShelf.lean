/- Contracts of the library at this program. -/
import Derived.Shelf.Small.Strs
import Derived.Shelf.Strconv.Atoi
import Derived.Shelf.Strconv.Itoa0
import Derived.Shelf.Strconv.Itoa1
import Derived.Shelf.LaysM
import Derived.Shelf.Strconv.Itoa2
import Derived.Shelf.Strconv.Itoa3
import Derived.Shelf.Strings.Search1
import Derived.Shelf.Strings.Search2
import Derived.Shelf.Strings.Search3
import Derived.Shelf.Strings.Shaped
import Derived.Ground.SlgnProg
import Derived.Shelf.SlicesE.Clone
import Derived.Test.YtimkkjiplioohaaGreatDoorProg
namespace Go.Proofs
open Go.Shelf


def Tryz.lays172_ren : Go.Shelf.Ren := ⟨fun | 172 => 205 | 244 => 230 | 245 => 231 | 247 => 247 | 279 => 248 | 280 => 249 | 281 => 250 | 282 => 251 | 287 => 257 | 316 => 258 | 171 => 99 | 205 => 259 | 321 => 266 | 322 => 267 | 243 => 130 | 246 => 167 | 283 => 200 | 284 => 201 | 285 => 202 | 286 => 203 | 129 => 226 | 317 => 225 | 318 => 227 | 319 => 228 | 320 => 52 | 337 => 96 | 338 => 97 | n => n, fun | 9 => 9 | 3 => 3 | 75 => 287 | 76 => 288 | 4 => 4 | 5 => 5 | 167 => 318 | 37 => 283 | 0 => 0 | 85 => 319 | 2 => 2 | 168 => 321 | 53 => 170 | 175 => 328 | 46 => 120 | 210 => 332 | 127 => 337 | 145 => 340 | 143 => 338 | 21 => 21 | 171 => 281 | 173 => 284 | 212 => 308 | 51 => 168 | 20 => 20 | 213 => 309 | 232 => 214 | 233 => 215 | 80 => 205 | n => n, fun | 15 => 4 | 16 => 5 | 17 => 2 | 18 => 0 | 19 => 1 | n => n⟩
theorem Tryz.lays172 : Go.Proofs.Lays.n172 Tryz.prog Tryz.lays172_ren := {
 mixed := by kernel_rfl
 f129 := Tryz.func226.trans (congrArg some (by kernel_rfl))
 f171 := Tryz.func99.trans (congrArg some (by kernel_rfl))
 f172 := Tryz.func205.trans (congrArg some (by kernel_rfl))
 f205 := Tryz.func259.trans (congrArg some (by kernel_rfl))
 f243 := Tryz.func130.trans (congrArg some (by kernel_rfl))
 f244 := Tryz.func230.trans (congrArg some (by kernel_rfl))
 f245 := Tryz.func231.trans (congrArg some (by kernel_rfl))
 f246 := Tryz.func167.trans (congrArg some (by kernel_rfl))
 f247 := Tryz.func247.trans (congrArg some (by kernel_rfl))
 f279 := Tryz.func248.trans (congrArg some (by kernel_rfl))
 f280 := Tryz.func249.trans (congrArg some (by kernel_rfl))
 f281 := Tryz.func250.trans (congrArg some (by kernel_rfl))
 f282 := Tryz.func251.trans (congrArg some (by kernel_rfl))
 f283 := Tryz.func200.trans (congrArg some (by kernel_rfl))
 f284 := Tryz.func201.trans (congrArg some (by kernel_rfl))
 f285 := Tryz.func202.trans (congrArg some (by kernel_rfl))
 f286 := Tryz.func203.trans (congrArg some (by kernel_rfl))
 f287 := Tryz.func257.trans (congrArg some (by kernel_rfl))
 f316 := Tryz.func258.trans (congrArg some (by kernel_rfl))
 f317 := Tryz.func225.trans (congrArg some (by kernel_rfl))
 f318 := Tryz.func227.trans (congrArg some (by kernel_rfl))
 f319 := Tryz.func228.trans (congrArg some (by kernel_rfl))
 f320 := Tryz.func52.trans (congrArg some (by kernel_rfl))
 f321 := Tryz.func266.trans (congrArg some (by kernel_rfl))
 f322 := Tryz.func267.trans (congrArg some (by kernel_rfl))
 f337 := Tryz.func96.trans (congrArg some (by kernel_rfl))
 f338 := Tryz.func97.trans (congrArg some (by kernel_rfl))
 t0 := Tryz.underlying0
 a0 := Tryz.isAgg0
 z0 := Tryz.sizeOf0
 v0 := Tryz.zeroValue0
 t2 := Tryz.underlying2
 a2 := Tryz.isAgg2
 z2 := Tryz.sizeOf2
 v2 := Tryz.zeroValue2
 t3 := Tryz.underlying3
 a3 := Tryz.isAgg3
 z3 := Tryz.sizeOf3
 v3 := Tryz.zeroValue3
 t4 := Tryz.underlying4
 a4 := Tryz.isAgg4
 z4 := Tryz.sizeOf4
 v4 := Tryz.zeroValue4
 t5 := Tryz.underlying5
 a5 := Tryz.isAgg5
 z5 := Tryz.sizeOf5
 v5 := Tryz.zeroValue5
 t9 := Tryz.underlying9
 a9 := Tryz.isAgg9
 z9 := Tryz.sizeOf9
 v9 := Tryz.zeroValue9
 t20 := Tryz.underlying20
 a20 := Tryz.isAgg20
 z20 := Tryz.sizeOf20
 v20 := Tryz.zeroValue20
 t21 := Tryz.underlying21
 a21 := Tryz.isAgg21
 z21 := Tryz.sizeOf21
 v21 := Tryz.zeroValue21
 t37 := Tryz.underlying283
 a37 := Tryz.isAgg283
 z37 := Tryz.sizeOf283
 v37 := Tryz.zeroValue283
 t46 := Tryz.underlying120
 a46 := Tryz.isAgg120
 z46 := Tryz.sizeOf120
 v46 := Tryz.zeroValue120
 t51 := Tryz.underlying168
 a51 := Tryz.isAgg168
 z51 := Tryz.sizeOf168
 v51 := Tryz.zeroValue168
 t53 := Tryz.underlying170
 a53 := Tryz.isAgg170
 z53 := Tryz.sizeOf170
 v53 := Tryz.zeroValue170
 t75 := Tryz.underlying287
 a75 := Tryz.isAgg287
 z75 := Tryz.sizeOf287
 v75 := Tryz.zeroValue287
 t76 := Tryz.underlying288
 a76 := Tryz.isAgg288
 z76 := Tryz.sizeOf288
 v76 := Tryz.zeroValue288
 t85 := Tryz.underlying319
 a85 := Tryz.isAgg319
 z85 := Tryz.sizeOf319
 v85 := Tryz.zeroValue319
 t127 := Tryz.underlying337
 a127 := Tryz.isAgg337
 z127 := Tryz.sizeOf337
 v127 := Tryz.zeroValue337
 t143 := Tryz.underlying338
 a143 := Tryz.isAgg338
 z143 := Tryz.sizeOf338
 v143 := Tryz.zeroValue338
 t145 := Tryz.underlying340
 a145 := Tryz.isAgg340
 z145 := Tryz.sizeOf340
 v145 := Tryz.zeroValue340
 t167 := Tryz.underlying318
 a167 := Tryz.isAgg318
 z167 := Tryz.sizeOf318
 v167 := Tryz.zeroValue318
 t168 := Tryz.underlying321
 a168 := Tryz.isAgg321
 z168 := Tryz.sizeOf321
 v168 := Tryz.zeroValue321
 t171 := Tryz.underlying281
 a171 := Tryz.isAgg281
 z171 := Tryz.sizeOf281
 v171 := Tryz.zeroValue281
 t173 := Tryz.underlying284
 a173 := Tryz.isAgg284
 z173 := Tryz.sizeOf284
 v173 := Tryz.zeroValue284
 t175 := Tryz.underlying328
 a175 := Tryz.isAgg328
 z175 := Tryz.sizeOf328
 v175 := Tryz.zeroValue328
 t210 := Tryz.underlying332
 a210 := Tryz.isAgg332
 z210 := Tryz.sizeOf332
 v210 := Tryz.zeroValue332
 t212 := Tryz.underlying308
 a212 := Tryz.isAgg308
 z212 := Tryz.sizeOf308
 v212 := Tryz.zeroValue308
 t213 := Tryz.underlying309
 a213 := Tryz.isAgg309
 z213 := Tryz.sizeOf309
 t232 := Tryz.underlying214
 a232 := Tryz.isAgg214
 z232 := Tryz.sizeOf214
 v232 := Tryz.zeroValue214
 t233 := Tryz.underlying215
 a233 := Tryz.isAgg215
 z233 := Tryz.sizeOf215
 v233 := Tryz.zeroValue215
 g15 := by kernel_rfl
 g16 := by kernel_rfl
 g17 := by kernel_rfl
 g18 := by kernel_rfl
 g19 := by kernel_rfl }
open Go.RowKit in
/-- strconv.Atoi: "Atoi is equivalent to ParseInt(s, 10, 0), converted to type int.": AT A DECIMAL NUMERAL OF AT MOST 18 BYTES: its value, and a nil error. The world behind the call: the one new row that the library's '[]byte(s)' lays. (LAID: no walk: one application.) -/
theorem Tryz.strconv_Atoi (s : ByteArray) (n : Int) (hl : s.size ≤ 18) (h : Lib.atoi s.data.toList = some n) (w : World) :
 Calls Tryz.prog 205 #[.string s] w fun e w' => e = .returned (.tuple #[.int .i64 n, .nilIface]) ∧ ∃ t, w' = Lib.bytesWorld w 5 t := Any.strconv_Atoi Tryz.lays172 s n hl h w
end Go.Proofs
