/- Contracts of the library at this program. -/
import Derived.Shelf.Small.Strs
import Derived.Shelf.Strconv.Atoi
import Derived.Shelf.Strconv.Itoa0
import Derived.Shelf.Strconv.Itoa1
import Derived.Shelf.LaysM
import Derived.Shelf.Strconv.Itoa2
import Derived.Shelf.Strconv.Itoa3
import Derived.Shelf.Strconv.AtoiErrFast
import Derived.Shelf.Strconv.ParseIntEmpty
import Derived.Shelf.Strconv.AtoiFail
import Derived.Shelf.Strconv.Clone
import Derived.Shelf.Strconv.SyntaxError
import Derived.Shelf.LaysC
import Derived.Shelf.Strconv.ToError
import Derived.Shelf.Strconv.Lower
import Derived.Shelf.Strconv.ParseUint10
import Derived.Shelf.Strconv.ParseUint10Empty
import Derived.Shelf.Strconv.ParseUint10Any
import Derived.Shelf.Strconv.ParseInt10
import Derived.Shelf.Strconv.AtoiLong
import Derived.Shelf.Strconv.AtoiInnerAll
import Derived.Shelf.Strconv.RangeError
import Derived.Shelf.Strconv.ToErrorRange
import Derived.Shelf.Strconv.AtoiAll
import Derived.Shelf.Strings.Search1
import Derived.Test.YtdiekinmoklonabDoorProg
namespace Go.Proofs
open Go.Shelf

def Tryd.lays137_ren : Go.Shelf.Ren := ⟨fun | 137 => 29 | 217 => 34 | 266 => 41 | n => n, fun | 9 => 9 | 5 => 5 | 3 => 3 | n => n, fun | n => n⟩
theorem Tryd.lays137 : Go.Proofs.Lays.n137 Tryd.prog Tryd.lays137_ren := {
 mixed := by kernel_rfl
 f137 := Tryd.func29.trans (congrArg some (by kernel_rfl))
 f217 := Tryd.func34.trans (congrArg some (by kernel_rfl))
 f266 := Tryd.func41.trans (congrArg some (by kernel_rfl))
 t3 := Tryd.underlying3
 a3 := Tryd.isAgg3
 z3 := Tryd.sizeOf3
 v3 := Tryd.zeroValue3
 t5 := Tryd.underlying5
 a5 := Tryd.isAgg5
 z5 := Tryd.sizeOf5
 v5 := Tryd.zeroValue5
 t9 := Tryd.underlying9
 a9 := Tryd.isAgg9
 z9 := Tryd.sizeOf9
 v9 := Tryd.zeroValue9 }
open Go.RowKit in
/-- strings.IndexByte: "IndexByte returns the index of the first instance of c in s, or -1 if c is not present in s.": IT RETURNS 'Lib.indexByte s c'; the world is as it was. (LAID: no walk: one application.) -/
theorem Tryd.strings_IndexByte (s : ByteArray) (c : Int) (w : World) :
  Calls Tryd.prog 29 #[.string s, .int .u8 c] w fun e w' => e = .returned (.int .i64 (Lib.indexByte s.data.toList c.toNat.toUInt8)) ∧ w' = w := Any.strings_IndexByte Tryd.lays137 s c w
def Tryd.laysM171_ren : Go.Shelf.Ren := ⟨fun | 171 => 28 | 243 => 33 | 246 => 40 | 283 => 45 | 284 => 46 | 285 => 47 | 286 => 48 | 129 => 52 | 317 => 51 | 318 => 53 | 319 => 54 | 320 => 55 | 337 => 56 | 338 => 57 | n => n, fun | 3 => 3 | 9 => 9 | 2 => 2 | 4 => 4 | 171 => 66 | 0 => 0 | 53 => 58 | 37 => 50 | 5 => 5 | 173 => 69 | 212 => 78 | 51 => 79 | 20 => 20 | 213 => 80 | 46 => 61 | 232 => 84 | 233 => 85 | n => n, fun | 17 => 3 | 18 => 4 | 19 => 5 | n => n⟩
theorem Tryd.laysM171 : Go.Proofs.LaysM.n171 Tryd.prog Tryd.laysM171_ren := {
 mixed := by kernel_rfl
 f129 := Tryd.func52.trans (congrArg some (by kernel_rfl))
 f171 := Tryd.func28.trans (congrArg some (by kernel_rfl))
 f243 := Tryd.func33.trans (congrArg some (by kernel_rfl))
 f246 := Tryd.func40.trans (congrArg some (by kernel_rfl))
 f283 := Tryd.func45.trans (congrArg some (by kernel_rfl))
 f284 := Tryd.func46.trans (congrArg some (by kernel_rfl))
 f285 := Tryd.func47.trans (congrArg some (by kernel_rfl))
 f286 := Tryd.func48.trans (congrArg some (by kernel_rfl))
 f317 := Tryd.func51.trans (congrArg some (by kernel_rfl))
 f318 := Tryd.func53.trans (congrArg some (by kernel_rfl))
 f319 := Tryd.func54.trans (congrArg some (by kernel_rfl))
 f320 := Tryd.func55.trans (congrArg some (by kernel_rfl))
 f337 := Tryd.func56.trans (congrArg some (by kernel_rfl))
 f338 := Tryd.func57.trans (congrArg some (by kernel_rfl))
 t0 := Tryd.underlying0
 a0 := Tryd.isAgg0
 z0 := Tryd.sizeOf0
 v0 := Tryd.zeroValue0
 t2 := Tryd.underlying2
 a2 := Tryd.isAgg2
 z2 := Tryd.sizeOf2
 v2 := Tryd.zeroValue2
 t3 := Tryd.underlying3
 a3 := Tryd.isAgg3
 z3 := Tryd.sizeOf3
 v3 := Tryd.zeroValue3
 t4 := Tryd.underlying4
 a4 := Tryd.isAgg4
 z4 := Tryd.sizeOf4
 v4 := Tryd.zeroValue4
 t5 := Tryd.underlying5
 a5 := Tryd.isAgg5
 z5 := Tryd.sizeOf5
 v5 := Tryd.zeroValue5
 t9 := Tryd.underlying9
 a9 := Tryd.isAgg9
 z9 := Tryd.sizeOf9
 v9 := Tryd.zeroValue9
 t20 := Tryd.underlying20
 a20 := Tryd.isAgg20
 z20 := Tryd.sizeOf20
 v20 := Tryd.zeroValue20
 t37 := Tryd.underlying50
 a37 := Tryd.isAgg50
 z37 := Tryd.sizeOf50
 v37 := Tryd.zeroValue50
 t46 := Tryd.underlying61
 a46 := Tryd.isAgg61
 z46 := Tryd.sizeOf61
 v46 := Tryd.zeroValue61
 t51 := Tryd.underlying79
 a51 := Tryd.isAgg79
 z51 := Tryd.sizeOf79
 v51 := Tryd.zeroValue79
 t53 := Tryd.underlying58
 a53 := Tryd.isAgg58
 z53 := Tryd.sizeOf58
 v53 := Tryd.zeroValue58
 t171 := Tryd.underlying66
 a171 := Tryd.isAgg66
 z171 := Tryd.sizeOf66
 v171 := Tryd.zeroValue66
 t173 := Tryd.underlying69
 a173 := Tryd.isAgg69
 z173 := Tryd.sizeOf69
 v173 := Tryd.zeroValue69
 t212 := Tryd.underlying78
 a212 := Tryd.isAgg78
 z212 := Tryd.sizeOf78
 v212 := Tryd.zeroValue78
 t213 := Tryd.underlying80
 a213 := Tryd.isAgg80
 z213 := Tryd.sizeOf80
 t232 := Tryd.underlying84
 a232 := Tryd.isAgg84
 z232 := Tryd.sizeOf84
 v232 := Tryd.zeroValue84
 t233 := Tryd.underlying85
 a233 := Tryd.isAgg85
 z233 := Tryd.sizeOf85
 v233 := Tryd.zeroValue85
 g17 := by kernel_rfl
 g18 := by kernel_rfl
 g19 := by kernel_rfl
 i0 := by kernel_rfl
 i2 := by kernel_rfl
 i3 := by kernel_rfl
 i4 := by kernel_rfl
 i5 := by kernel_rfl
 i9 := by kernel_rfl
 i20 := by kernel_rfl
 i37 := by kernel_rfl
 i46 := by kernel_rfl
 i51 := by kernel_rfl
 i53 := by kernel_rfl
 i171 := by kernel_rfl
 i173 := by kernel_rfl
 i212 := by kernel_rfl
 i232 := by kernel_rfl
 i233 := by kernel_rfl
 m17 := by kernel_rfl
 m18 := by kernel_rfl
 m19 := by kernel_rfl }
open Go.RowKit Go.Sort Go.Lib in
/-- strconv.Itoa: "Itoa is equivalent to FormatInt(int64(i), 10).": i's DECIMAL NUMERAL ('Lib.itoa': a '-' where i is negative, then the digits), FOR EVERY int. The world behind the call: the world before it, new blocks behind the heap (the library's 'var a [24]byte'), draws. (LAID: no walk: one application.) -/
theorem Tryd.strconv_Itoa (n : Int) (h0 : -9223372036854775808 ≤ n) (h1 : n ≤ 9223372036854775807) (w : World) (htab : Lib.TabIs Tryd.prog w "internal/strconv.uint64pow10" .u64 Lib.pow10Tab) :
  Calls Tryd.prog 28 #[.int .i64 n] w fun e w' => e = .returned (.string ⟨(Lib.itoa n).toArray⟩) ∧ ∃ k os, w' = grow (w.drewN k) os := Any.strconv_Itoa Tryd.laysM171 n h0 h1 w htab
def Tryd.laysC172_ren : Go.Shelf.Ren := ⟨fun | 172 => 25 | 244 => 31 | 245 => 32 | 247 => 35 | 279 => 36 | 280 => 37 | 281 => 38 | 282 => 39 | 287 => 42 | 316 => 43 | 171 => 28 | 205 => 44 | 321 => 49 | 322 => 50 | 243 => 33 | 246 => 40 | 283 => 45 | 284 => 46 | 285 => 47 | 286 => 48 | 129 => 52 | 317 => 51 | 318 => 53 | 319 => 54 | 320 => 55 | 337 => 56 | 338 => 57 | n => n, fun | 9 => 9 | 3 => 3 | 75 => 44 | 76 => 45 | 4 => 4 | 5 => 5 | 167 => 51 | 37 => 50 | 0 => 0 | 85 => 52 | 2 => 2 | 168 => 54 | 53 => 58 | 175 => 59 | 46 => 61 | 210 => 64 | 127 => 72 | 145 => 75 | 143 => 73 | 21 => 21 | 171 => 66 | 173 => 69 | 212 => 78 | 51 => 79 | 20 => 20 | 213 => 80 | 232 => 84 | 233 => 85 | 80 => 86 | n => n, fun | 15 => 0 | 16 => 1 | 17 => 3 | 18 => 4 | 19 => 5 | n => n⟩
theorem Tryd.laysC172 : Go.Proofs.LaysC.n172 Tryd.prog Tryd.laysC172_ren := {
 mixed := by kernel_rfl
 f129 := Tryd.func52.trans (congrArg some (by kernel_rfl))
 f171 := Tryd.func28.trans (congrArg some (by kernel_rfl))
 f172 := Tryd.func25.trans (congrArg some (by kernel_rfl))
 f205 := Tryd.func44.trans (congrArg some (by kernel_rfl))
 f243 := Tryd.func33.trans (congrArg some (by kernel_rfl))
 f244 := Tryd.func31.trans (congrArg some (by kernel_rfl))
 f245 := Tryd.func32.trans (congrArg some (by kernel_rfl))
 f246 := Tryd.func40.trans (congrArg some (by kernel_rfl))
 f247 := Tryd.func35.trans (congrArg some (by kernel_rfl))
 f279 := Tryd.func36.trans (congrArg some (by kernel_rfl))
 f280 := Tryd.func37.trans (congrArg some (by kernel_rfl))
 f281 := Tryd.func38.trans (congrArg some (by kernel_rfl))
 f282 := Tryd.func39.trans (congrArg some (by kernel_rfl))
 f283 := Tryd.func45.trans (congrArg some (by kernel_rfl))
 f284 := Tryd.func46.trans (congrArg some (by kernel_rfl))
 f285 := Tryd.func47.trans (congrArg some (by kernel_rfl))
 f286 := Tryd.func48.trans (congrArg some (by kernel_rfl))
 f287 := Tryd.func42.trans (congrArg some (by kernel_rfl))
 f316 := Tryd.func43.trans (congrArg some (by kernel_rfl))
 f317 := Tryd.func51.trans (congrArg some (by kernel_rfl))
 f318 := Tryd.func53.trans (congrArg some (by kernel_rfl))
 f319 := Tryd.func54.trans (congrArg some (by kernel_rfl))
 f320 := Tryd.func55.trans (congrArg some (by kernel_rfl))
 f321 := Tryd.func49.trans (congrArg some (by kernel_rfl))
 f322 := Tryd.func50.trans (congrArg some (by kernel_rfl))
 f337 := Tryd.func56.trans (congrArg some (by kernel_rfl))
 f338 := Tryd.func57.trans (congrArg some (by kernel_rfl))
 t0 := Tryd.underlying0
 a0 := Tryd.isAgg0
 z0 := Tryd.sizeOf0
 v0 := Tryd.zeroValue0
 t2 := Tryd.underlying2
 a2 := Tryd.isAgg2
 z2 := Tryd.sizeOf2
 v2 := Tryd.zeroValue2
 t3 := Tryd.underlying3
 a3 := Tryd.isAgg3
 z3 := Tryd.sizeOf3
 v3 := Tryd.zeroValue3
 t4 := Tryd.underlying4
 a4 := Tryd.isAgg4
 z4 := Tryd.sizeOf4
 v4 := Tryd.zeroValue4
 t5 := Tryd.underlying5
 a5 := Tryd.isAgg5
 z5 := Tryd.sizeOf5
 v5 := Tryd.zeroValue5
 t9 := Tryd.underlying9
 a9 := Tryd.isAgg9
 z9 := Tryd.sizeOf9
 v9 := Tryd.zeroValue9
 t20 := Tryd.underlying20
 a20 := Tryd.isAgg20
 z20 := Tryd.sizeOf20
 v20 := Tryd.zeroValue20
 t21 := Tryd.underlying21
 a21 := Tryd.isAgg21
 z21 := Tryd.sizeOf21
 v21 := Tryd.zeroValue21
 t37 := Tryd.underlying50
 a37 := Tryd.isAgg50
 z37 := Tryd.sizeOf50
 v37 := Tryd.zeroValue50
 t46 := Tryd.underlying61
 a46 := Tryd.isAgg61
 z46 := Tryd.sizeOf61
 v46 := Tryd.zeroValue61
 t51 := Tryd.underlying79
 a51 := Tryd.isAgg79
 z51 := Tryd.sizeOf79
 v51 := Tryd.zeroValue79
 t53 := Tryd.underlying58
 a53 := Tryd.isAgg58
 z53 := Tryd.sizeOf58
 v53 := Tryd.zeroValue58
 t75 := Tryd.underlying44
 a75 := Tryd.isAgg44
 z75 := Tryd.sizeOf44
 v75 := Tryd.zeroValue44
 t76 := Tryd.underlying45
 a76 := Tryd.isAgg45
 z76 := Tryd.sizeOf45
 v76 := Tryd.zeroValue45
 t85 := Tryd.underlying52
 a85 := Tryd.isAgg52
 z85 := Tryd.sizeOf52
 v85 := Tryd.zeroValue52
 t127 := Tryd.underlying72
 a127 := Tryd.isAgg72
 z127 := Tryd.sizeOf72
 v127 := Tryd.zeroValue72
 t143 := Tryd.underlying73
 a143 := Tryd.isAgg73
 z143 := Tryd.sizeOf73
 v143 := Tryd.zeroValue73
 t145 := Tryd.underlying75
 a145 := Tryd.isAgg75
 z145 := Tryd.sizeOf75
 v145 := Tryd.zeroValue75
 t167 := Tryd.underlying51
 a167 := Tryd.isAgg51
 z167 := Tryd.sizeOf51
 v167 := Tryd.zeroValue51
 t168 := Tryd.underlying54
 a168 := Tryd.isAgg54
 z168 := Tryd.sizeOf54
 v168 := Tryd.zeroValue54
 t171 := Tryd.underlying66
 a171 := Tryd.isAgg66
 z171 := Tryd.sizeOf66
 v171 := Tryd.zeroValue66
 t173 := Tryd.underlying69
 a173 := Tryd.isAgg69
 z173 := Tryd.sizeOf69
 v173 := Tryd.zeroValue69
 t175 := Tryd.underlying59
 a175 := Tryd.isAgg59
 z175 := Tryd.sizeOf59
 v175 := Tryd.zeroValue59
 t210 := Tryd.underlying64
 a210 := Tryd.isAgg64
 z210 := Tryd.sizeOf64
 v210 := Tryd.zeroValue64
 t212 := Tryd.underlying78
 a212 := Tryd.isAgg78
 z212 := Tryd.sizeOf78
 v212 := Tryd.zeroValue78
 t213 := Tryd.underlying80
 a213 := Tryd.isAgg80
 z213 := Tryd.sizeOf80
 t232 := Tryd.underlying84
 a232 := Tryd.isAgg84
 z232 := Tryd.sizeOf84
 v232 := Tryd.zeroValue84
 t233 := Tryd.underlying85
 a233 := Tryd.isAgg85
 z233 := Tryd.sizeOf85
 v233 := Tryd.zeroValue85
 g15 := by kernel_rfl
 g16 := by kernel_rfl
 g17 := by kernel_rfl
 g18 := by kernel_rfl
 g19 := by kernel_rfl
 t80 := Tryd.underlying86
 a80 := Tryd.isAgg86
 z80 := Tryd.sizeOf86
 v80 := Tryd.zeroValue86
 i0 := by kernel_rfl
 i2 := by kernel_rfl
 i3 := by kernel_rfl
 i4 := by kernel_rfl
 i5 := by kernel_rfl
 i9 := by kernel_rfl
 i20 := by kernel_rfl
 i21 := by kernel_rfl
 i37 := by kernel_rfl
 i46 := by kernel_rfl
 i51 := by kernel_rfl
 i53 := by kernel_rfl
 i75 := by kernel_rfl
 i76 := by kernel_rfl
 i80 := by kernel_rfl
 i85 := by kernel_rfl
 i127 := by kernel_rfl
 i143 := by kernel_rfl
 i145 := by kernel_rfl
 i167 := by kernel_rfl
 i168 := by kernel_rfl
 i171 := by kernel_rfl
 i173 := by kernel_rfl
 i175 := by kernel_rfl
 i210 := by kernel_rfl
 i212 := by kernel_rfl
 i232 := by kernel_rfl
 i233 := by kernel_rfl
 m15 := by kernel_rfl
 m16 := by kernel_rfl
 m17 := by kernel_rfl
 m18 := by kernel_rfl
 m19 := by kernel_rfl
 c0 := by kernel_rfl
 c2 := by kernel_rfl
 c3 := by kernel_rfl
 c4 := by kernel_rfl
 c5 := by kernel_rfl
 c9 := by kernel_rfl
 c20 := by kernel_rfl
 c21 := by kernel_rfl
 c37 := by kernel_rfl
 c46 := by kernel_rfl
 c51 := by kernel_rfl
 c53 := by kernel_rfl
 c75 := by kernel_rfl
 c76 := by kernel_rfl
 c80 := by kernel_rfl
 c85 := by kernel_rfl
 c127 := by kernel_rfl
 c143 := by kernel_rfl
 c145 := by kernel_rfl
 c167 := by kernel_rfl
 c168 := by kernel_rfl
 c171 := by kernel_rfl
 c173 := by kernel_rfl
 c175 := by kernel_rfl
 c210 := by kernel_rfl
 c212 := by kernel_rfl
 c213 := by kernel_rfl
 c232 := by kernel_rfl
 c233 := by kernel_rfl }
open Go.RowKit in
/-- strconv.Atoi, AT EVERY STRING THAT SPELLS AN int ('Lib.atoiAll .. = .ok v'; of whatever length: leading zeros count): v, AND NO ERROR. The world: as it was, or with the one new row that '[]byte(..)' lays. (LAID: no walk: one application.) -/
theorem Tryd.strconv_Atoi_ok (s : ByteArray) (hmax : s.size ≤ 9223372036854775806) (v : Int) (h : Lib.atoiAll s.data.toList = .ok v) (w : World) :
  Calls Tryd.prog 25 #[.string s] w fun e w' => e = .returned (.tuple #[.int .i64 v, .nilIface]) ∧ (w' = w ∨ ∃ t, w' = Lib.bytesWorld w 5 t) := Any.strconv_Atoi_ok Tryd.laysC172 s hmax v h w
open Go.RowKit in
/-- strconv.Atoi, AT EVERY STRING THAT IS NO DECIMAL NUMERAL ('.syntax'): 0, AND AN ERROR THAT IS NOT nil: a *NumError in a new block N: {Func: "Atoi", Num: s's bytes, Err: what the variable ErrSyntax holds}. Of what was there nothing has turned. (LAID: no walk: one application.) -/
theorem Tryd.strconv_Atoi_syntax (s : ByteArray) (hlim : s.size ≤ 281474976710656) (h : Lib.atoiAll s.data.toList = Lib.NumEnd.syntax) (ev : Value) (w : World) (hv : w.cell? ⟨0, 0, none⟩ = some ev) (hev : ev = .nilIface ∨ ∃ te pe, ev = .iface te pe) :
  Calls Tryd.prog 25 #[.string s] w fun e w' => ∃ N, e = .returned (.tuple #[.int .i64 (0), .iface 54 (.pointer (some ⟨N, 0, none⟩))]) ∧ w.heap.size ≤ N ∧ w'.heap[N]? = some (.cells #[.string ⟨#[65, 116, 111, 105]⟩, .string s, ev] 64 (0, 0)) ∧ Below w.heap.size w w' := Any.strconv_Atoi_syntax Tryd.laysC172 s hlim h ev w hv hev
open Go.RowKit in
/-- strconv.Atoi, AT EVERY NUMERAL THAT NO int HOLDS ('.range'): THE GREATEST OR THE LEAST int, BY THE SIGN ('Lib.atoiSat'), AND AN ERROR THAT IS NOT nil: a *NumError in a new block N: {Func: "Atoi", Num: s's bytes, Err: what the variable ErrRange holds}. Of what was there nothing has turned. (LAID: no walk: one application.) -/
theorem Tryd.strconv_Atoi_range (s : ByteArray) (hlim : s.size ≤ 281474976710656) (h : Lib.atoiAll s.data.toList = .range) (ev : Value) (w : World) (hv : w.cell? ⟨1, 0, none⟩ = some ev) (hev : ev = .nilIface ∨ ∃ te pe, ev = .iface te pe) :
  Calls Tryd.prog 25 #[.string s] w fun e w' => ∃ N, e = .returned (.tuple #[.int .i64 (Lib.atoiSat s.data.toList), .iface 54 (.pointer (some ⟨N, 0, none⟩))]) ∧ w.heap.size ≤ N ∧ w'.heap[N]? = some (.cells #[.string ⟨#[65, 116, 111, 105]⟩, .string s, ev] 64 (0, 0)) ∧ Below w.heap.size w w' := Any.strconv_Atoi_range Tryd.laysC172 s hlim h ev w hv hev
end Go.Proofs
