/- Contracts of the library at this program. -/
import Derived.Shelf.Small.Strs
import Derived.Shelf.Strconv.Atoi
import Derived.Shelf.Strconv.Itoa0
import Derived.Shelf.Strconv.Itoa1
import Derived.Shelf.LaysM
import Derived.Shelf.Strconv.Itoa2
import Derived.Shelf.Strconv.Itoa3
import Derived.Shelf.Strings.Search1
import Derived.Shelf.Strings.Search2
import Derived.Shelf.Strings.Search3
import Derived.Shelf.Strings.Shaped
import Derived.Ground.SlgnProg
import Derived.Shelf.SlicesE.Clone
import Derived.Test.YtmgddgcniacnbaaGreatDoorProg
namespace Go.Proofs
open Go.Shelf

def Tryz.lays213_ren : Go.Shelf.Ren := ⟨fun | 213 => 143 | 265 => 167 | n => n, fun | 9 => 9 | 3 => 3 | n => n, fun | n => n⟩
theorem Tryz.lays213 : Go.Proofs.Lays.n213 Tryz.prog Tryz.lays213_ren := {
  mixed := by kernel_rfl
  f213 := Tryz.func143.trans (congrArg some (by kernel_rfl))
  f265 := Tryz.func167.trans (congrArg some (by kernel_rfl))
  t3 := Tryz.underlying3
  a3 := Tryz.isAgg3
  z3 := Tryz.sizeOf3
  v3 := Tryz.zeroValue3
  t9 := Tryz.underlying9
  a9 := Tryz.isAgg9
  z9 := Tryz.sizeOf9
  v9 := Tryz.zeroValue9 }
open Go.RowKit in
/-- internal/bytealg.CompareString (what strings.Compare calls): IT RETURNS 'Lib.compareBytes a b'; the world is as it was. (LAID: no walk: one application.) -/
theorem Tryz.bytealg_CompareString (a b : ByteArray) (w : World) :
    Calls Tryz.prog 143 #[.string a, .string b] w fun e w' => e = .returned (.int .i64 (Lib.compareBytes a.data.toList b.data.toList)) ∧ w' = w := Any.bytealg_CompareString Tryz.lays213 a b w
def Tryz.lays172_ren : Go.Shelf.Ren := ⟨fun | 172 => 150 | 244 => 171 | 245 => 172 | 247 => 191 | 279 => 192 | 280 => 193 | 281 => 194 | 282 => 195 | 287 => 201 | 316 => 202 | 171 => 151 | 205 => 203 | 321 => 209 | 322 => 210 | 243 => 173 | 246 => 196 | 283 => 204 | 284 => 205 | 285 => 206 | 286 => 207 | 129 => 212 | 317 => 211 | 318 => 213 | 319 => 214 | 320 => 215 | 337 => 216 | 338 => 217 | n => n, fun | 9 => 9 | 3 => 3 | 75 => 212 | 76 => 213 | 4 => 4 | 5 => 5 | 167 => 242 | 37 => 144 | 0 => 0 | 85 => 243 | 2 => 2 | 168 => 245 | 53 => 253 | 175 => 254 | 46 => 232 | 210 => 258 | 127 => 266 | 145 => 269 | 143 => 267 | 21 => 21 | 171 => 260 | 173 => 263 | 212 => 271 | 51 => 249 | 20 => 20 | 213 => 272 | 232 => 275 | 233 => 276 | 80 => 136 | n => n, fun | 15 => 1 | 16 => 2 | 17 => 3 | 18 => 4 | 19 => 5 | n => n⟩
theorem Tryz.lays172 : Go.Proofs.Lays.n172 Tryz.prog Tryz.lays172_ren := {
  mixed := by kernel_rfl
  f129 := Tryz.func212.trans (congrArg some (by kernel_rfl))
  f171 := Tryz.func151.trans (congrArg some (by kernel_rfl))
  f172 := Tryz.func150.trans (congrArg some (by kernel_rfl))
  f205 := Tryz.func203.trans (congrArg some (by kernel_rfl))
  f243 := Tryz.func173.trans (congrArg some (by kernel_rfl))
  f244 := Tryz.func171.trans (congrArg some (by kernel_rfl))
  f245 := Tryz.func172.trans (congrArg some (by kernel_rfl))
  f246 := Tryz.func196.trans (congrArg some (by kernel_rfl))
  f247 := Tryz.func191.trans (congrArg some (by kernel_rfl))
  f279 := Tryz.func192.trans (congrArg some (by kernel_rfl))
  f280 := Tryz.func193.trans (congrArg some (by kernel_rfl))
  f281 := Tryz.func194.trans (congrArg some (by kernel_rfl))
  f282 := Tryz.func195.trans (congrArg some (by kernel_rfl))
  f283 := Tryz.func204.trans (congrArg some (by kernel_rfl))
  f284 := Tryz.func205.trans (congrArg some (by kernel_rfl))
  f285 := Tryz.func206.trans (congrArg some (by kernel_rfl))
  f286 := Tryz.func207.trans (congrArg some (by kernel_rfl))
  f287 := Tryz.func201.trans (congrArg some (by kernel_rfl))
  f316 := Tryz.func202.trans (congrArg some (by kernel_rfl))
  f317 := Tryz.func211.trans (congrArg some (by kernel_rfl))
  f318 := Tryz.func213.trans (congrArg some (by kernel_rfl))
  f319 := Tryz.func214.trans (congrArg some (by kernel_rfl))
  f320 := Tryz.func215.trans (congrArg some (by kernel_rfl))
  f321 := Tryz.func209.trans (congrArg some (by kernel_rfl))
  f322 := Tryz.func210.trans (congrArg some (by kernel_rfl))
  f337 := Tryz.func216.trans (congrArg some (by kernel_rfl))
  f338 := Tryz.func217.trans (congrArg some (by kernel_rfl))
  t0 := Tryz.underlying0
  a0 := Tryz.isAgg0
  z0 := Tryz.sizeOf0
  v0 := Tryz.zeroValue0
  t2 := Tryz.underlying2
  a2 := Tryz.isAgg2
  z2 := Tryz.sizeOf2
  v2 := Tryz.zeroValue2
  t3 := Tryz.underlying3
  a3 := Tryz.isAgg3
  z3 := Tryz.sizeOf3
  v3 := Tryz.zeroValue3
  t4 := Tryz.underlying4
  a4 := Tryz.isAgg4
  z4 := Tryz.sizeOf4
  v4 := Tryz.zeroValue4
  t5 := Tryz.underlying5
  a5 := Tryz.isAgg5
  z5 := Tryz.sizeOf5
  v5 := Tryz.zeroValue5
  t9 := Tryz.underlying9
  a9 := Tryz.isAgg9
  z9 := Tryz.sizeOf9
  v9 := Tryz.zeroValue9
  t20 := Tryz.underlying20
  a20 := Tryz.isAgg20
  z20 := Tryz.sizeOf20
  v20 := Tryz.zeroValue20
  t21 := Tryz.underlying21
  a21 := Tryz.isAgg21
  z21 := Tryz.sizeOf21
  v21 := Tryz.zeroValue21
  t37 := Tryz.underlying144
  a37 := Tryz.isAgg144
  z37 := Tryz.sizeOf144
  v37 := Tryz.zeroValue144
  t46 := Tryz.underlying232
  a46 := Tryz.isAgg232
  z46 := Tryz.sizeOf232
  v46 := Tryz.zeroValue232
  t51 := Tryz.underlying249
  a51 := Tryz.isAgg249
  z51 := Tryz.sizeOf249
  v51 := Tryz.zeroValue249
  t53 := Tryz.underlying253
  a53 := Tryz.isAgg253
  z53 := Tryz.sizeOf253
  v53 := Tryz.zeroValue253
  t75 := Tryz.underlying212
  a75 := Tryz.isAgg212
  z75 := Tryz.sizeOf212
  v75 := Tryz.zeroValue212
  t76 := Tryz.underlying213
  a76 := Tryz.isAgg213
  z76 := Tryz.sizeOf213
  v76 := Tryz.zeroValue213
  t85 := Tryz.underlying243
  a85 := Tryz.isAgg243
  z85 := Tryz.sizeOf243
  v85 := Tryz.zeroValue243
  t127 := Tryz.underlying266
  a127 := Tryz.isAgg266
  z127 := Tryz.sizeOf266
  v127 := Tryz.zeroValue266
  t143 := Tryz.underlying267
  a143 := Tryz.isAgg267
  z143 := Tryz.sizeOf267
  v143 := Tryz.zeroValue267
  t145 := Tryz.underlying269
  a145 := Tryz.isAgg269
  z145 := Tryz.sizeOf269
  v145 := Tryz.zeroValue269
  t167 := Tryz.underlying242
  a167 := Tryz.isAgg242
  z167 := Tryz.sizeOf242
  v167 := Tryz.zeroValue242
  t168 := Tryz.underlying245
  a168 := Tryz.isAgg245
  z168 := Tryz.sizeOf245
  v168 := Tryz.zeroValue245
  t171 := Tryz.underlying260
  a171 := Tryz.isAgg260
  z171 := Tryz.sizeOf260
  v171 := Tryz.zeroValue260
  t173 := Tryz.underlying263
  a173 := Tryz.isAgg263
  z173 := Tryz.sizeOf263
  v173 := Tryz.zeroValue263
  t175 := Tryz.underlying254
  a175 := Tryz.isAgg254
  z175 := Tryz.sizeOf254
  v175 := Tryz.zeroValue254
  t210 := Tryz.underlying258
  a210 := Tryz.isAgg258
  z210 := Tryz.sizeOf258
  v210 := Tryz.zeroValue258
  t212 := Tryz.underlying271
  a212 := Tryz.isAgg271
  z212 := Tryz.sizeOf271
  v212 := Tryz.zeroValue271
  t213 := Tryz.underlying272
  a213 := Tryz.isAgg272
  z213 := Tryz.sizeOf272
  t232 := Tryz.underlying275
  a232 := Tryz.isAgg275
  z232 := Tryz.sizeOf275
  v232 := Tryz.zeroValue275
  t233 := Tryz.underlying276
  a233 := Tryz.isAgg276
  z233 := Tryz.sizeOf276
  v233 := Tryz.zeroValue276
  g15 := by kernel_rfl
  g16 := by kernel_rfl
  g17 := by kernel_rfl
  g18 := by kernel_rfl
  g19 := by kernel_rfl }
open Go.RowKit in
/-- strconv.Atoi: "Atoi is equivalent to ParseInt(s, 10, 0), converted to type int.": AT A DECIMAL NUMERAL OF AT MOST 18 BYTES: its value, and a nil error. The world behind the call: the one new row that the library's '[]byte(s)' lays. (LAID: no walk: one application.) -/
theorem Tryz.strconv_Atoi (s : ByteArray) (n : Int) (hl : s.size ≤ 18) (h : Lib.atoi s.data.toList = some n) (w : World) :
    Calls Tryz.prog 150 #[.string s] w fun e w' => e = .returned (.tuple #[.int .i64 n, .nilIface]) ∧ ∃ t, w' = Lib.bytesWorld w 5 t := Any.strconv_Atoi Tryz.lays172 s n hl h w
end Go.Proofs
