/-
  DERIVED: THE SHELF's CONTRACTS AT THIS DUMP, IN PLAIN WORDS (tools/lay-plain.mjs out of 'YtimkkjiplioohaaGreatDoorShelf.lean', which tools/lay-shelf.mjs wrote): THE SAME DECLARATIONS UNDER THE SAME NAMES: 'import', 'namespace', 'open', 'def', 'theorem' AND NOTHING ELSE: no command of the shelf's: FOR A HAND-IN. Each laying: the table of numbers ('.._ren') and one theorem, a field a fact of the dump's own or the kernel's comparison; each contract: ONE APPLICATION.
-/
import Derived.Shelf.Small.Strs
import Derived.Shelf.Strconv.Atoi
import Derived.Shelf.Strings.Search1
import Derived.Shelf.Strings.Search2
import Derived.Shelf.Strings.Search3
import Derived.Shelf.LaysM
import Derived.Shelf.Strings.Shaped
import Derived.Test.YtimkkjiplioohaaGreatDoorProg
namespace Go.Proofs
open Go.Shelf
def Tryz.lays213_ren : Go.Shelf.Ren := ⟨fun | 213 => 241 | 265 => 256 | n => n, fun | 9 => 9 | 3 => 3 | n => n, fun | n => n⟩
theorem Tryz.lays213 : Go.Proofs.Lays.n213 Tryz.prog Tryz.lays213_ren := {
 mixed := by kernel_rfl
 f213 := Tryz.func241.trans (congrArg some (by kernel_rfl))
 f265 := Tryz.func256.trans (congrArg some (by kernel_rfl))
 t3 := Tryz.underlying3
 a3 := Tryz.isAgg3
 z3 := Tryz.sizeOf3
 v3 := Tryz.zeroValue3
 t9 := Tryz.underlying9
 a9 := Tryz.isAgg9
 z9 := Tryz.sizeOf9
 v9 := Tryz.zeroValue9 }
open Go.RowKit in
/-- internal/bytealg.CompareString (what strings.Compare calls): IT RETURNS 'Lib.compareBytes a b'; the world is as it was. (LAID: no walk: one application.) -/
theorem Tryz.bytealg_CompareString (a b : ByteArray) (w : World) :
  Calls Tryz.prog 241 #[.string a, .string b] w fun e w' => e = .returned (.int .i64 (Lib.compareBytes a.data.toList b.data.toList)) ∧ w' = w := Any.bytealg_CompareString Tryz.lays213 a b w
def Tryz.lays106_ren : Go.Shelf.Ren := ⟨fun | 106 => 219 | 213 => 241 | 265 => 256 | n => n, fun | 9 => 9 | 3 => 3 | n => n, fun | n => n⟩
theorem Tryz.lays106 : Go.Proofs.Lays.n106 Tryz.prog Tryz.lays106_ren := {
 mixed := by kernel_rfl
 f106 := Tryz.func219.trans (congrArg some (by kernel_rfl))
 f213 := Tryz.func241.trans (congrArg some (by kernel_rfl))
 f265 := Tryz.func256.trans (congrArg some (by kernel_rfl))
 t3 := Tryz.underlying3
 a3 := Tryz.isAgg3
 z3 := Tryz.sizeOf3
 v3 := Tryz.zeroValue3
 t9 := Tryz.underlying9
 a9 := Tryz.isAgg9
 z9 := Tryz.sizeOf9
 v9 := Tryz.zeroValue9 }
open Go.RowKit in
/-- strings.Compare: "Compare returns an integer comparing two strings lexicographically. The result will be 0 if a == b, -1 if a < b, and +1 if a > b.": IT RETURNS 'Lib.compareBytes a b'; the world is as it was. (LAID: no walk: one application.) -/
theorem Tryz.strings_Compare (a b : ByteArray) (w : World) :
  Calls Tryz.prog 219 #[.string a, .string b] w fun e w' => e = .returned (.int .i64 (Lib.compareBytes a.data.toList b.data.toList)) ∧ w' = w := Any.strings_Compare Tryz.lays106 a b w
def Tryz.lays137_ren : Go.Shelf.Ren := ⟨fun | 137 => 206 | 217 => 232 | 266 => 252 | n => n, fun | 9 => 9 | 5 => 5 | 3 => 3 | n => n, fun | n => n⟩
theorem Tryz.lays137 : Go.Proofs.Lays.n137 Tryz.prog Tryz.lays137_ren := {
 mixed := by kernel_rfl
 f137 := Tryz.func206.trans (congrArg some (by kernel_rfl))
 f217 := Tryz.func232.trans (congrArg some (by kernel_rfl))
 f266 := Tryz.func252.trans (congrArg some (by kernel_rfl))
 t3 := Tryz.underlying3
 a3 := Tryz.isAgg3
 z3 := Tryz.sizeOf3
 v3 := Tryz.zeroValue3
 t5 := Tryz.underlying5
 a5 := Tryz.isAgg5
 z5 := Tryz.sizeOf5
 v5 := Tryz.zeroValue5
 t9 := Tryz.underlying9
 a9 := Tryz.isAgg9
 z9 := Tryz.sizeOf9
 v9 := Tryz.zeroValue9 }
open Go.RowKit in
/-- strings.IndexByte: "IndexByte returns the index of the first instance of c in s, or -1 if c is not present in s.": IT RETURNS 'Lib.indexByte s c'; the world is as it was. (LAID: no walk: one application.) -/
theorem Tryz.strings_IndexByte (s : ByteArray) (c : Int) (w : World) :
  Calls Tryz.prog 206 #[.string s, .int .u8 c] w fun e w' => e = .returned (.int .i64 (Lib.indexByte s.data.toList c.toNat.toUInt8)) ∧ w' = w := Any.strings_IndexByte Tryz.lays137 s c w
def Tryz.lays244_ren : Go.Shelf.Ren := ⟨fun | 244 => 230 | 247 => 247 | 287 => 257 | 321 => 266 | 322 => 267 | n => n, fun | 9 => 9 | 3 => 3 | 75 => 287 | 4 => 4 | 5 => 5 | 167 => 318 | 37 => 283 | 0 => 0 | 85 => 319 | 2 => 2 | 53 => 170 | 175 => 328 | 46 => 120 | 21 => 21 | 80 => 205 | n => n, fun | n => n⟩
theorem Tryz.lays244 : Go.Proofs.Lays.n244 Tryz.prog Tryz.lays244_ren := {
 mixed := by kernel_rfl
 f244 := Tryz.func230.trans (congrArg some (by kernel_rfl))
 f247 := Tryz.func247.trans (congrArg some (by kernel_rfl))
 f287 := Tryz.func257.trans (congrArg some (by kernel_rfl))
 f321 := Tryz.func266.trans (congrArg some (by kernel_rfl))
 f322 := Tryz.func267.trans (congrArg some (by kernel_rfl))
 t0 := Tryz.underlying0
 a0 := Tryz.isAgg0
 z0 := Tryz.sizeOf0
 v0 := Tryz.zeroValue0
 t2 := Tryz.underlying2
 a2 := Tryz.isAgg2
 z2 := Tryz.sizeOf2
 v2 := Tryz.zeroValue2
 t3 := Tryz.underlying3
 a3 := Tryz.isAgg3
 z3 := Tryz.sizeOf3
 v3 := Tryz.zeroValue3
 t4 := Tryz.underlying4
 a4 := Tryz.isAgg4
 z4 := Tryz.sizeOf4
 v4 := Tryz.zeroValue4
 t5 := Tryz.underlying5
 a5 := Tryz.isAgg5
 z5 := Tryz.sizeOf5
 v5 := Tryz.zeroValue5
 t9 := Tryz.underlying9
 a9 := Tryz.isAgg9
 z9 := Tryz.sizeOf9
 v9 := Tryz.zeroValue9
 t21 := Tryz.underlying21
 a21 := Tryz.isAgg21
 z21 := Tryz.sizeOf21
 v21 := Tryz.zeroValue21
 t37 := Tryz.underlying283
 a37 := Tryz.isAgg283
 z37 := Tryz.sizeOf283
 v37 := Tryz.zeroValue283
 t46 := Tryz.underlying120
 a46 := Tryz.isAgg120
 z46 := Tryz.sizeOf120
 v46 := Tryz.zeroValue120
 t53 := Tryz.underlying170
 a53 := Tryz.isAgg170
 z53 := Tryz.sizeOf170
 v53 := Tryz.zeroValue170
 t75 := Tryz.underlying287
 a75 := Tryz.isAgg287
 z75 := Tryz.sizeOf287
 v75 := Tryz.zeroValue287
 t85 := Tryz.underlying319
 a85 := Tryz.isAgg319
 z85 := Tryz.sizeOf319
 v85 := Tryz.zeroValue319
 t167 := Tryz.underlying318
 a167 := Tryz.isAgg318
 z167 := Tryz.sizeOf318
 v167 := Tryz.zeroValue318
 t175 := Tryz.underlying328
 a175 := Tryz.isAgg328
 z175 := Tryz.sizeOf328
 v175 := Tryz.zeroValue328 }
open Go.RowKit in
/-- internal/strconv.Atoi, at a decimal numeral of at most 18 bytes: ITS VALUE, AND NO ERROR. The world behind the call: the one new row that '[]byte(s)' lays. (LAID: no walk: one application.) -/
theorem Tryz.internal_strconv_Atoi (s : ByteArray) (n : Int) (hl : s.size ≤ 18) (h : Lib.atoi s.data.toList = some n) (w : World) :
  Calls Tryz.prog 230 #[.string s] w fun e w' => e = .returned (.tuple #[.int .i64 n, .nilIface]) ∧ ∃ t, w' = Lib.bytesWorld w 5 t := Any.internal_strconv_Atoi Tryz.lays244 s n hl h w
def Tryz.lays172_ren : Go.Shelf.Ren := ⟨fun | 172 => 205 | 244 => 230 | 245 => 231 | 247 => 247 | 279 => 248 | 280 => 249 | 281 => 250 | 282 => 251 | 287 => 257 | 316 => 258 | 171 => 99 | 205 => 259 | 321 => 266 | 322 => 267 | 243 => 130 | 246 => 167 | 283 => 200 | 284 => 201 | 285 => 202 | 286 => 203 | 129 => 226 | 317 => 225 | 318 => 227 | 319 => 228 | 320 => 52 | 337 => 96 | 338 => 97 | n => n, fun | 9 => 9 | 3 => 3 | 75 => 287 | 76 => 288 | 4 => 4 | 5 => 5 | 167 => 318 | 37 => 283 | 0 => 0 | 85 => 319 | 2 => 2 | 168 => 321 | 53 => 170 | 175 => 328 | 46 => 120 | 210 => 332 | 127 => 337 | 145 => 340 | 143 => 338 | 21 => 21 | 171 => 281 | 173 => 284 | 212 => 308 | 51 => 168 | 20 => 20 | 213 => 309 | 232 => 214 | 233 => 215 | 80 => 205 | n => n, fun | 15 => 4 | 16 => 5 | 17 => 2 | 18 => 0 | 19 => 1 | n => n⟩
theorem Tryz.lays172 : Go.Proofs.Lays.n172 Tryz.prog Tryz.lays172_ren := {
 mixed := by kernel_rfl
 f129 := Tryz.func226.trans (congrArg some (by kernel_rfl))
 f171 := Tryz.func99.trans (congrArg some (by kernel_rfl))
 f172 := Tryz.func205.trans (congrArg some (by kernel_rfl))
 f205 := Tryz.func259.trans (congrArg some (by kernel_rfl))
 f243 := Tryz.func130.trans (congrArg some (by kernel_rfl))
 f244 := Tryz.func230.trans (congrArg some (by kernel_rfl))
 f245 := Tryz.func231.trans (congrArg some (by kernel_rfl))
 f246 := Tryz.func167.trans (congrArg some (by kernel_rfl))
 f247 := Tryz.func247.trans (congrArg some (by kernel_rfl))
 f279 := Tryz.func248.trans (congrArg some (by kernel_rfl))
 f280 := Tryz.func249.trans (congrArg some (by kernel_rfl))
 f281 := Tryz.func250.trans (congrArg some (by kernel_rfl))
 f282 := Tryz.func251.trans (congrArg some (by kernel_rfl))
 f283 := Tryz.func200.trans (congrArg some (by kernel_rfl))
 f284 := Tryz.func201.trans (congrArg some (by kernel_rfl))
 f285 := Tryz.func202.trans (congrArg some (by kernel_rfl))
 f286 := Tryz.func203.trans (congrArg some (by kernel_rfl))
 f287 := Tryz.func257.trans (congrArg some (by kernel_rfl))
 f316 := Tryz.func258.trans (congrArg some (by kernel_rfl))
 f317 := Tryz.func225.trans (congrArg some (by kernel_rfl))
 f318 := Tryz.func227.trans (congrArg some (by kernel_rfl))
 f319 := Tryz.func228.trans (congrArg some (by kernel_rfl))
 f320 := Tryz.func52.trans (congrArg some (by kernel_rfl))
 f321 := Tryz.func266.trans (congrArg some (by kernel_rfl))
 f322 := Tryz.func267.trans (congrArg some (by kernel_rfl))
 f337 := Tryz.func96.trans (congrArg some (by kernel_rfl))
 f338 := Tryz.func97.trans (congrArg some (by kernel_rfl))
 t0 := Tryz.underlying0
 a0 := Tryz.isAgg0
 z0 := Tryz.sizeOf0
 v0 := Tryz.zeroValue0
 t2 := Tryz.underlying2
 a2 := Tryz.isAgg2
 z2 := Tryz.sizeOf2
 v2 := Tryz.zeroValue2
 t3 := Tryz.underlying3
 a3 := Tryz.isAgg3
 z3 := Tryz.sizeOf3
 v3 := Tryz.zeroValue3
 t4 := Tryz.underlying4
 a4 := Tryz.isAgg4
 z4 := Tryz.sizeOf4
 v4 := Tryz.zeroValue4
 t5 := Tryz.underlying5
 a5 := Tryz.isAgg5
 z5 := Tryz.sizeOf5
 v5 := Tryz.zeroValue5
 t9 := Tryz.underlying9
 a9 := Tryz.isAgg9
 z9 := Tryz.sizeOf9
 v9 := Tryz.zeroValue9
 t20 := Tryz.underlying20
 a20 := Tryz.isAgg20
 z20 := Tryz.sizeOf20
 v20 := Tryz.zeroValue20
 t21 := Tryz.underlying21
 a21 := Tryz.isAgg21
 z21 := Tryz.sizeOf21
 v21 := Tryz.zeroValue21
 t37 := Tryz.underlying283
 a37 := Tryz.isAgg283
 z37 := Tryz.sizeOf283
 v37 := Tryz.zeroValue283
 t46 := Tryz.underlying120
 a46 := Tryz.isAgg120
 z46 := Tryz.sizeOf120
 v46 := Tryz.zeroValue120
 t51 := Tryz.underlying168
 a51 := Tryz.isAgg168
 z51 := Tryz.sizeOf168
 v51 := Tryz.zeroValue168
 t53 := Tryz.underlying170
 a53 := Tryz.isAgg170
 z53 := Tryz.sizeOf170
 v53 := Tryz.zeroValue170
 t75 := Tryz.underlying287
 a75 := Tryz.isAgg287
 z75 := Tryz.sizeOf287
 v75 := Tryz.zeroValue287
 t76 := Tryz.underlying288
 a76 := Tryz.isAgg288
 z76 := Tryz.sizeOf288
 v76 := Tryz.zeroValue288
 t85 := Tryz.underlying319
 a85 := Tryz.isAgg319
 z85 := Tryz.sizeOf319
 v85 := Tryz.zeroValue319
 t127 := Tryz.underlying337
 a127 := Tryz.isAgg337
 z127 := Tryz.sizeOf337
 v127 := Tryz.zeroValue337
 t143 := Tryz.underlying338
 a143 := Tryz.isAgg338
 z143 := Tryz.sizeOf338
 v143 := Tryz.zeroValue338
 t145 := Tryz.underlying340
 a145 := Tryz.isAgg340
 z145 := Tryz.sizeOf340
 v145 := Tryz.zeroValue340
 t167 := Tryz.underlying318
 a167 := Tryz.isAgg318
 z167 := Tryz.sizeOf318
 v167 := Tryz.zeroValue318
 t168 := Tryz.underlying321
 a168 := Tryz.isAgg321
 z168 := Tryz.sizeOf321
 v168 := Tryz.zeroValue321
 t171 := Tryz.underlying281
 a171 := Tryz.isAgg281
 z171 := Tryz.sizeOf281
 v171 := Tryz.zeroValue281
 t173 := Tryz.underlying284
 a173 := Tryz.isAgg284
 z173 := Tryz.sizeOf284
 v173 := Tryz.zeroValue284
 t175 := Tryz.underlying328
 a175 := Tryz.isAgg328
 z175 := Tryz.sizeOf328
 v175 := Tryz.zeroValue328
 t210 := Tryz.underlying332
 a210 := Tryz.isAgg332
 z210 := Tryz.sizeOf332
 v210 := Tryz.zeroValue332
 t212 := Tryz.underlying308
 a212 := Tryz.isAgg308
 z212 := Tryz.sizeOf308
 v212 := Tryz.zeroValue308
 t213 := Tryz.underlying309
 a213 := Tryz.isAgg309
 z213 := Tryz.sizeOf309
 t232 := Tryz.underlying214
 a232 := Tryz.isAgg214
 z232 := Tryz.sizeOf214
 v232 := Tryz.zeroValue214
 t233 := Tryz.underlying215
 a233 := Tryz.isAgg215
 z233 := Tryz.sizeOf215
 v233 := Tryz.zeroValue215
 g15 := by kernel_rfl
 g16 := by kernel_rfl
 g17 := by kernel_rfl
 g18 := by kernel_rfl
 g19 := by kernel_rfl }
open Go.RowKit in
/-- strconv.Atoi: "Atoi is equivalent to ParseInt(s, 10, 0), converted to type int.": AT A DECIMAL NUMERAL OF AT MOST 18 BYTES: its value, and a nil error. The world behind the call: the one new row that the library's '[]byte(s)' lays. (LAID: no walk: one application.) -/
theorem Tryz.strconv_Atoi (s : ByteArray) (n : Int) (hl : s.size ≤ 18) (h : Lib.atoi s.data.toList = some n) (w : World) :
  Calls Tryz.prog 205 #[.string s] w fun e w' => e = .returned (.tuple #[.int .i64 n, .nilIface]) ∧ ∃ t, w' = Lib.bytesWorld w 5 t := Any.strconv_Atoi Tryz.lays172 s n hl h w
def Tryz.lays217_ren : Go.Shelf.Ren := ⟨fun | 217 => 232 | 266 => 252 | n => n, fun | 9 => 9 | 5 => 5 | 3 => 3 | n => n, fun | n => n⟩
theorem Tryz.lays217 : Go.Proofs.Lays.n217 Tryz.prog Tryz.lays217_ren := {
 mixed := by kernel_rfl
 f217 := Tryz.func232.trans (congrArg some (by kernel_rfl))
 f266 := Tryz.func252.trans (congrArg some (by kernel_rfl))
 t3 := Tryz.underlying3
 a3 := Tryz.isAgg3
 z3 := Tryz.sizeOf3
 v3 := Tryz.zeroValue3
 t5 := Tryz.underlying5
 a5 := Tryz.isAgg5
 z5 := Tryz.sizeOf5
 v5 := Tryz.zeroValue5
 t9 := Tryz.underlying9
 a9 := Tryz.isAgg9
 z9 := Tryz.sizeOf9
 v9 := Tryz.zeroValue9 }
open Go.RowKit Go.Lib in
/-- internal/stringslite.IndexByte (what strings.IndexByte calls): IT RETURNS 'Lib.indexByte s c'; the world is as it was. (LAID: no walk: one application.) -/
theorem Tryz.stringslite_IndexByte (s : ByteArray) (c : Int) (w : World) :
  Calls Tryz.prog 232 #[.string s, .int .u8 c] w fun e w' => e = .returned (.int .i64 (Lib.indexByte s.data.toList c.toNat.toUInt8)) ∧ w' = w := Any.stringslite_IndexByte Tryz.lays217 s c w
def Tryz.lays224_ren : Go.Shelf.Ren := ⟨fun | 224 => 234 | n => n, fun | 3 => 3 | n => n, fun | n => n⟩
theorem Tryz.lays224 : Go.Proofs.Lays.n224 Tryz.prog Tryz.lays224_ren := {
 mixed := by kernel_rfl
 f224 := Tryz.func234.trans (congrArg some (by kernel_rfl))
 t3 := Tryz.underlying3
 a3 := Tryz.isAgg3
 z3 := Tryz.sizeOf3
 v3 := Tryz.zeroValue3 }
open Go.RowKit Go.Lib in
/-- internal/bytealg.Cutover: "Cutover reports the number of failures of IndexByte we should tolerate before switching over to Index. n is the number of bytes processed so far.": on amd64: (n + 16) / 8. (LAID: no walk: one application.) -/
theorem Tryz.bytealg_Cutover (n : Int) (h0 : 0 ≤ n) (h1 : n < 4611686018427387904) (w : World) :
  Calls Tryz.prog 234 #[.int .i64 n] w fun e w' => e = .returned (.int .i64 ((n + 16) / 8)) ∧ w' = w := Any.bytealg_Cutover Tryz.lays224 n h0 h1 w
def Tryz.lays314_ren : Go.Shelf.Ren := ⟨fun | 314 => 253 | n => n, fun | 9 => 9 | 51 => 168 | 3 => 3 | 4 => 4 | 5 => 5 | 46 => 120 | n => n, fun | n => n⟩
theorem Tryz.lays314 : Go.Proofs.Lays.n314 Tryz.prog Tryz.lays314_ren := {
 mixed := by kernel_rfl
 f314 := Tryz.func253.trans (congrArg some (by kernel_rfl))
 t3 := Tryz.underlying3
 a3 := Tryz.isAgg3
 z3 := Tryz.sizeOf3
 v3 := Tryz.zeroValue3
 t4 := Tryz.underlying4
 a4 := Tryz.isAgg4
 z4 := Tryz.sizeOf4
 v4 := Tryz.zeroValue4
 t5 := Tryz.underlying5
 a5 := Tryz.isAgg5
 z5 := Tryz.sizeOf5
 v5 := Tryz.zeroValue5
 t9 := Tryz.underlying9
 a9 := Tryz.isAgg9
 z9 := Tryz.sizeOf9
 v9 := Tryz.zeroValue9
 t46 := Tryz.underlying120
 a46 := Tryz.isAgg120
 z46 := Tryz.sizeOf120
 v46 := Tryz.zeroValue120
 t51 := Tryz.underlying168
 a51 := Tryz.isAgg168
 z51 := Tryz.sizeOf168
 v51 := Tryz.zeroValue168 }
open Go.RowKit Go.Lib in
/-- hashStr: "returns the hash and the appropriate multiplicative factor for use in Rabin-Karp algorithm": THE HASH OF ALL OF sep, AND 16777619 ^ len(sep), both in uint32. (LAID: no walk: one application.) -/
theorem Tryz.bytealg_hashStr (sep : ByteArray) (hs : sep.size < 4294967281) (w : World) :
  Calls Tryz.prog 253 #[.string sep] w fun e w' => e = .returned (.tuple #[.int .u32 (RK.H sep.data.toList % 4294967296), .int .u32 (16777619 ^ sep.size % 4294967296)]) ∧ w' = w := Any.bytealg_hashStr Tryz.lays314 sep hs w
def Tryz.lays267_ren : Go.Shelf.Ren := ⟨fun | 267 => 235 | 314 => 253 | n => n, fun | 9 => 9 | 3 => 3 | 146 => 324 | 51 => 168 | 4 => 4 | 5 => 5 | 46 => 120 | n => n, fun | n => n⟩
theorem Tryz.lays267 : Go.Proofs.Lays.n267 Tryz.prog Tryz.lays267_ren := {
 mixed := by kernel_rfl
 f267 := Tryz.func235.trans (congrArg some (by kernel_rfl))
 f314 := Tryz.func253.trans (congrArg some (by kernel_rfl))
 t3 := Tryz.underlying3
 a3 := Tryz.isAgg3
 z3 := Tryz.sizeOf3
 v3 := Tryz.zeroValue3
 t4 := Tryz.underlying4
 a4 := Tryz.isAgg4
 z4 := Tryz.sizeOf4
 v4 := Tryz.zeroValue4
 t5 := Tryz.underlying5
 a5 := Tryz.isAgg5
 z5 := Tryz.sizeOf5
 v5 := Tryz.zeroValue5
 t9 := Tryz.underlying9
 a9 := Tryz.isAgg9
 z9 := Tryz.sizeOf9
 v9 := Tryz.zeroValue9
 t46 := Tryz.underlying120
 a46 := Tryz.isAgg120
 z46 := Tryz.sizeOf120
 v46 := Tryz.zeroValue120
 t51 := Tryz.underlying168
 a51 := Tryz.isAgg168
 z51 := Tryz.sizeOf168
 v51 := Tryz.zeroValue168
 t146 := Tryz.underlying324
 a146 := Tryz.isAgg324
 z146 := Tryz.sizeOf324
 v146 := Tryz.zeroValue324 }
open Go.RowKit Go.Lib in
theorem Tryz.bytealg_IndexRabinKarp (s sep : ByteArray) (h1 : 1 ≤ sep.size) (h2 : sep.size ≤ s.size) (hs : s.size < 4294967281) (w : World) :
  Calls Tryz.prog 235 #[.string s, .string sep] w fun e w' => e = .returned (.int .i64 (Lib.index s.data.toList sep.data.toList)) ∧ w' = w := Any.bytealg_IndexRabinKarp Tryz.lays267 s sep h1 h2 hs w
def Tryz.lays219_ren : Go.Shelf.Ren := ⟨fun | 219 => 208 | 217 => 232 | 225 => 233 | 224 => 234 | 267 => 235 | 266 => 252 | 314 => 253 | n => n, fun | 9 => 9 | 3 => 3 | 4 => 4 | 5 => 5 | 46 => 120 | 146 => 324 | 51 => 168 | n => n, fun | 1 => 3 | n => n⟩
theorem Tryz.lays219 : Go.Proofs.Lays.n219 Tryz.prog Tryz.lays219_ren := {
 mixed := by kernel_rfl
 f217 := Tryz.func232.trans (congrArg some (by kernel_rfl))
 f219 := Tryz.func208.trans (congrArg some (by kernel_rfl))
 f224 := Tryz.func234.trans (congrArg some (by kernel_rfl))
 f225 := Tryz.func233.trans (congrArg some (by kernel_rfl))
 f266 := Tryz.func252.trans (congrArg some (by kernel_rfl))
 f267 := Tryz.func235.trans (congrArg some (by kernel_rfl))
 f314 := Tryz.func253.trans (congrArg some (by kernel_rfl))
 t3 := Tryz.underlying3
 a3 := Tryz.isAgg3
 z3 := Tryz.sizeOf3
 v3 := Tryz.zeroValue3
 t4 := Tryz.underlying4
 a4 := Tryz.isAgg4
 z4 := Tryz.sizeOf4
 v4 := Tryz.zeroValue4
 t5 := Tryz.underlying5
 a5 := Tryz.isAgg5
 z5 := Tryz.sizeOf5
 v5 := Tryz.zeroValue5
 t9 := Tryz.underlying9
 a9 := Tryz.isAgg9
 z9 := Tryz.sizeOf9
 v9 := Tryz.zeroValue9
 t46 := Tryz.underlying120
 a46 := Tryz.isAgg120
 z46 := Tryz.sizeOf120
 v46 := Tryz.zeroValue120
 t51 := Tryz.underlying168
 a51 := Tryz.isAgg168
 z51 := Tryz.sizeOf168
 v51 := Tryz.zeroValue168
 t146 := Tryz.underlying324
 a146 := Tryz.isAgg324
 z146 := Tryz.sizeOf324
 v146 := Tryz.zeroValue324
 g1 := by kernel_rfl }
open Go.RowKit Go.Lib in
/-- internal/stringslite.Index (what strings.Index calls) AT A substr OF ONE BYTE c: IT RETURNS 'Lib.indexByte s c'; the world is as it was. (LAID: no walk: one application.) -/
theorem Tryz.stringslite_Index_one (s : ByteArray) (c : UInt8) (w : World) :
  Calls Tryz.prog 208 #[.string s, .string ⟨#[c]⟩] w fun e w' => e = .returned (.int .i64 (Lib.indexByte s.data.toList c)) ∧ w' = w := Any.stringslite_Index_one Tryz.lays219 s c w
open Go.RowKit Go.Lib in
/-- internal/stringslite.Index (what strings.Index calls) AT A substr OF WHATEVER LENGTH: IT RETURNS 'Lib.index s substr'; the world is as it was. 'm': what internal/bytealg.MaxLen holds: whatever. (LAID: no walk: one application.) -/
theorem Tryz.stringslite_Index (s sub : ByteArray) (m : Int) (w : World) (hs : s.size < 4294967281) (hm : w.cell? ⟨3, 0, none⟩ = some (.int .i64 m)) :
  Calls Tryz.prog 208 #[.string s, .string sub] w fun e w' => e = .returned (.int .i64 (Lib.index s.data.toList sub.data.toList)) ∧ w' = w := Any.stringslite_Index Tryz.lays219 s sub m w hs hm
def Tryz.lays143_ren : Go.Shelf.Ren := ⟨fun | 143 => 178 | 219 => 208 | 217 => 232 | 225 => 233 | 224 => 234 | 267 => 235 | 266 => 252 | 314 => 253 | n => n, fun | 9 => 9 | 3 => 3 | 4 => 4 | 5 => 5 | 46 => 120 | 146 => 324 | 51 => 168 | n => n, fun | 1 => 3 | n => n⟩
theorem Tryz.lays143 : Go.Proofs.Lays.n143 Tryz.prog Tryz.lays143_ren := {
 mixed := by kernel_rfl
 f143 := Tryz.func178.trans (congrArg some (by kernel_rfl))
 f217 := Tryz.func232.trans (congrArg some (by kernel_rfl))
 f219 := Tryz.func208.trans (congrArg some (by kernel_rfl))
 f224 := Tryz.func234.trans (congrArg some (by kernel_rfl))
 f225 := Tryz.func233.trans (congrArg some (by kernel_rfl))
 f266 := Tryz.func252.trans (congrArg some (by kernel_rfl))
 f267 := Tryz.func235.trans (congrArg some (by kernel_rfl))
 f314 := Tryz.func253.trans (congrArg some (by kernel_rfl))
 t3 := Tryz.underlying3
 a3 := Tryz.isAgg3
 z3 := Tryz.sizeOf3
 v3 := Tryz.zeroValue3
 t4 := Tryz.underlying4
 a4 := Tryz.isAgg4
 z4 := Tryz.sizeOf4
 v4 := Tryz.zeroValue4
 t5 := Tryz.underlying5
 a5 := Tryz.isAgg5
 z5 := Tryz.sizeOf5
 v5 := Tryz.zeroValue5
 t9 := Tryz.underlying9
 a9 := Tryz.isAgg9
 z9 := Tryz.sizeOf9
 v9 := Tryz.zeroValue9
 t46 := Tryz.underlying120
 a46 := Tryz.isAgg120
 z46 := Tryz.sizeOf120
 v46 := Tryz.zeroValue120
 t51 := Tryz.underlying168
 a51 := Tryz.isAgg168
 z51 := Tryz.sizeOf168
 v51 := Tryz.zeroValue168
 t146 := Tryz.underlying324
 a146 := Tryz.isAgg324
 z146 := Tryz.sizeOf324
 v146 := Tryz.zeroValue324
 g1 := by kernel_rfl }
open Go.RowKit Go.Lib in
/-- strings.Index: "Index returns the index of the first instance of substr in s, or -1 if substr is not present in s.": AT A substr OF ONE BYTE c: IT RETURNS 'Lib.indexByte s c'; the world is as it was. (LAID: no walk: one application.) -/
theorem Tryz.strings_Index_one (s : ByteArray) (c : UInt8) (w : World) :
  Calls Tryz.prog 178 #[.string s, .string ⟨#[c]⟩] w fun e w' => e = .returned (.int .i64 (Lib.indexByte s.data.toList c)) ∧ w' = w := Any.strings_Index_one Tryz.lays143 s c w
open Go.RowKit Go.Lib in
/-- strings.Index: "Index returns the index of the first instance of substr in s, or -1 if substr is not present in s.": IT RETURNS 'Lib.index s substr'; the world is as it was. (LAID: no walk: one application.) -/
theorem Tryz.strings_Index (s sub : ByteArray) (m : Int) (w : World) (hs : s.size < 4294967281) (hm : w.cell? ⟨3, 0, none⟩ = some (.int .i64 m)) :
  Calls Tryz.prog 178 #[.string s, .string sub] w fun e w' => e = .returned (.int .i64 (Lib.index s.data.toList sub.data.toList)) ∧ w' = w := Any.strings_Index Tryz.lays143 s sub m w hs hm
def Tryz.laysM219_ren : Go.Shelf.Ren := ⟨fun | 219 => 208 | 217 => 232 | 225 => 233 | 224 => 234 | 267 => 235 | 266 => 252 | 314 => 253 | n => n, fun | 9 => 9 | 3 => 3 | 4 => 4 | 5 => 5 | 46 => 120 | 146 => 324 | 51 => 168 | n => n, fun | 1 => 3 | n => n⟩
theorem Tryz.laysM219 : Go.Proofs.LaysM.n219 Tryz.prog Tryz.laysM219_ren := {
 mixed := by kernel_rfl
 f217 := Tryz.func232.trans (congrArg some (by kernel_rfl))
 f219 := Tryz.func208.trans (congrArg some (by kernel_rfl))
 f224 := Tryz.func234.trans (congrArg some (by kernel_rfl))
 f225 := Tryz.func233.trans (congrArg some (by kernel_rfl))
 f266 := Tryz.func252.trans (congrArg some (by kernel_rfl))
 f267 := Tryz.func235.trans (congrArg some (by kernel_rfl))
 f314 := Tryz.func253.trans (congrArg some (by kernel_rfl))
 t3 := Tryz.underlying3
 a3 := Tryz.isAgg3
 z3 := Tryz.sizeOf3
 v3 := Tryz.zeroValue3
 t4 := Tryz.underlying4
 a4 := Tryz.isAgg4
 z4 := Tryz.sizeOf4
 v4 := Tryz.zeroValue4
 t5 := Tryz.underlying5
 a5 := Tryz.isAgg5
 z5 := Tryz.sizeOf5
 v5 := Tryz.zeroValue5
 t9 := Tryz.underlying9
 a9 := Tryz.isAgg9
 z9 := Tryz.sizeOf9
 v9 := Tryz.zeroValue9
 t46 := Tryz.underlying120
 a46 := Tryz.isAgg120
 z46 := Tryz.sizeOf120
 v46 := Tryz.zeroValue120
 t51 := Tryz.underlying168
 a51 := Tryz.isAgg168
 z51 := Tryz.sizeOf168
 v51 := Tryz.zeroValue168
 t146 := Tryz.underlying324
 a146 := Tryz.isAgg324
 z146 := Tryz.sizeOf324
 v146 := Tryz.zeroValue324
 g1 := by kernel_rfl
 i3 := by kernel_rfl
 i4 := by kernel_rfl
 i5 := by kernel_rfl
 i9 := by kernel_rfl
 i46 := by kernel_rfl
 i51 := by kernel_rfl
 i146 := by kernel_rfl
 m1 := by kernel_rfl
 s1_3 := fun w h => Go.Proofs.cell_of_shapedOpen_int (zero := #[.int .i64 0]) (t := 3) h (of_decide_eq_true (by kernel_rfl)) (by kernel_rfl) rfl (by kernel_rfl) (by kernel_rfl) Tryz.underlying3 }
open Go.RowKit Go.Lib in
theorem Tryz.stringslite_Index_shaped (s sub : ByteArray) (w : World) (h : w.ShapedOpen Tryz.prog) (hs : s.size < 4294967281) :
  Calls Tryz.prog 208 #[.string s, .string sub] w fun e w' => e = .returned (.int .i64 (Lib.index s.data.toList sub.data.toList)) ∧ w' = w := Any.stringslite_Index_shaped Tryz.laysM219 s sub w h hs
def Tryz.laysM143_ren : Go.Shelf.Ren := ⟨fun | 143 => 178 | 219 => 208 | 217 => 232 | 225 => 233 | 224 => 234 | 267 => 235 | 266 => 252 | 314 => 253 | n => n, fun | 9 => 9 | 3 => 3 | 4 => 4 | 5 => 5 | 46 => 120 | 146 => 324 | 51 => 168 | n => n, fun | 1 => 3 | n => n⟩
theorem Tryz.laysM143 : Go.Proofs.LaysM.n143 Tryz.prog Tryz.laysM143_ren := {
 mixed := by kernel_rfl
 f143 := Tryz.func178.trans (congrArg some (by kernel_rfl))
 f217 := Tryz.func232.trans (congrArg some (by kernel_rfl))
 f219 := Tryz.func208.trans (congrArg some (by kernel_rfl))
 f224 := Tryz.func234.trans (congrArg some (by kernel_rfl))
 f225 := Tryz.func233.trans (congrArg some (by kernel_rfl))
 f266 := Tryz.func252.trans (congrArg some (by kernel_rfl))
 f267 := Tryz.func235.trans (congrArg some (by kernel_rfl))
 f314 := Tryz.func253.trans (congrArg some (by kernel_rfl))
 t3 := Tryz.underlying3
 a3 := Tryz.isAgg3
 z3 := Tryz.sizeOf3
 v3 := Tryz.zeroValue3
 t4 := Tryz.underlying4
 a4 := Tryz.isAgg4
 z4 := Tryz.sizeOf4
 v4 := Tryz.zeroValue4
 t5 := Tryz.underlying5
 a5 := Tryz.isAgg5
 z5 := Tryz.sizeOf5
 v5 := Tryz.zeroValue5
 t9 := Tryz.underlying9
 a9 := Tryz.isAgg9
 z9 := Tryz.sizeOf9
 v9 := Tryz.zeroValue9
 t46 := Tryz.underlying120
 a46 := Tryz.isAgg120
 z46 := Tryz.sizeOf120
 v46 := Tryz.zeroValue120
 t51 := Tryz.underlying168
 a51 := Tryz.isAgg168
 z51 := Tryz.sizeOf168
 v51 := Tryz.zeroValue168
 t146 := Tryz.underlying324
 a146 := Tryz.isAgg324
 z146 := Tryz.sizeOf324
 v146 := Tryz.zeroValue324
 g1 := by kernel_rfl
 i3 := by kernel_rfl
 i4 := by kernel_rfl
 i5 := by kernel_rfl
 i9 := by kernel_rfl
 i46 := by kernel_rfl
 i51 := by kernel_rfl
 i146 := by kernel_rfl
 m1 := by kernel_rfl
 s1_3 := fun w h => Go.Proofs.cell_of_shapedOpen_int (zero := #[.int .i64 0]) (t := 3) h (of_decide_eq_true (by kernel_rfl)) (by kernel_rfl) rfl (by kernel_rfl) (by kernel_rfl) Tryz.underlying3 }
open Go.RowKit Go.Lib in
theorem Tryz.strings_Index_shaped (s sub : ByteArray) (w : World) (h : w.ShapedOpen Tryz.prog) (hs : s.size < 4294967281) :
  Calls Tryz.prog 178 #[.string s, .string sub] w fun e w' => e = .returned (.int .i64 (Lib.index s.data.toList sub.data.toList)) ∧ w' = w := Any.strings_Index_shaped Tryz.laysM143 s sub w h hs
end Go.Proofs
