/- The types of the program, as the abstract machine asks for them. -/
import Derived.Test.YtimkkjiplioohaaGreatDoorProg
import Derived.Test.YtimkkjiplioohaaGreatDoorA4
import Derived.KernelRfl
namespace Go.Proofs.YtimkkjiplioohaaGreatDoor
open Go.Ab

@[simp] theorem ty3 : tyOf Tryz.prog 3 = some ⟨TypeDesc.int IntKind.i64, 1, 8, Value.int IntKind.i64 0⟩ := by kernel_rfl
@[simp] theorem ty4 : tyOf Tryz.prog 4 = some ⟨TypeDesc.bool, 1, 1, Value.bool false⟩ := by kernel_rfl
@[simp] theorem ty9 : tyOf Tryz.prog 9 = some ⟨TypeDesc.string, 1, 16, Value.string (ByteArray.mk #[])⟩ := by kernel_rfl
@[simp] theorem ty22 : tyOf Tryz.prog 22 = some ⟨TypeDesc.slice 3, 1, 24, Value.slice none 0 0⟩ := by kernel_rfl
@[simp] theorem ty31 : tyOf Tryz.prog 31 = some ⟨TypeDesc.int IntKind.i64, 1, 8, Value.int IntKind.i64 0⟩ := by kernel_rfl
@[simp] theorem ty35 : tyOf Tryz.prog 35 = some ⟨TypeDesc.slice 4, 1, 24, Value.slice none 0 0⟩ := by kernel_rfl
@[simp] theorem ty48 : tyOf Tryz.prog 48 = some ⟨TypeDesc.slice 57, 1, 24, Value.slice none 0 0⟩ := by kernel_rfl
@[simp] theorem ty56 : tyOf Tryz.prog 56 = some ⟨TypeDesc.slice 61, 1, 24, Value.slice none 0 0⟩ := by kernel_rfl
@[simp] theorem ty57 : tyOf Tryz.prog 57 = some ⟨TypeDesc.slice 61, 1, 24, Value.slice none 0 0⟩ := by kernel_rfl
@[simp] theorem ty60 : tyOf Tryz.prog 60 = some ⟨TypeDesc.struct #[Field.mk "Kind" 3 0 false "" "" 0, Field.mk "Int" 3 1 false "" "" 8, Field.mk "Text" 9 2 false "" "" 16], 3, 32, Value.agg #[Value.int IntKind.i64 0, Value.int IntKind.i64 0, Value.string (ByteArray.mk #[])]⟩ := by kernel_rfl
@[simp] theorem ty61 : tyOf Tryz.prog 61 = some ⟨TypeDesc.struct #[Field.mk "Kind" 3 0 false "" "" 0, Field.mk "Int" 3 1 false "" "" 8, Field.mk "Text" 9 2 false "" "" 16], 3, 32, Value.agg #[Value.int IntKind.i64 0, Value.int IntKind.i64 0, Value.string (ByteArray.mk #[])]⟩ := by kernel_rfl
@[simp] theorem ty64 : tyOf Tryz.prog 64 = some ⟨TypeDesc.struct #[Field.mk "Columns" 22 0 false "" "" 0, Field.mk "Descending" 35 1 false "" "" 24], 2, 48, Value.agg #[Value.slice none 0 0, Value.slice none 0 0]⟩ := by kernel_rfl
@[simp] theorem ty65 : tyOf Tryz.prog 65 = some ⟨TypeDesc.struct #[Field.mk "Columns" 22 0 false "" "" 0, Field.mk "Descending" 35 1 false "" "" 24], 2, 48, Value.agg #[Value.slice none 0 0, Value.slice none 0 0]⟩ := by kernel_rfl
@[simp] theorem ty66 : tyOf Tryz.prog 66 = some ⟨TypeDesc.slice 75, 1, 24, Value.slice none 0 0⟩ := by kernel_rfl
@[simp] theorem ty74 : tyOf Tryz.prog 74 = some ⟨TypeDesc.struct #[Field.mk "Function" 9 0 false "" "" 0, Field.mk "Column" 3 1 false "" "" 16], 2, 24, Value.agg #[Value.string (ByteArray.mk #[]), Value.int IntKind.i64 0]⟩ := by kernel_rfl
@[simp] theorem ty75 : tyOf Tryz.prog 75 = some ⟨TypeDesc.struct #[Field.mk "Function" 9 0 false "" "" 0, Field.mk "Column" 3 1 false "" "" 16], 2, 24, Value.agg #[Value.string (ByteArray.mk #[]), Value.int IntKind.i64 0]⟩ := by kernel_rfl
@[simp] theorem ty86 : tyOf Tryz.prog 86 = some ⟨TypeDesc.struct #[Field.mk "Name" 9 0 false "" "" 0, Field.mk "Kind" 3 1 false "" "" 16, Field.mk "Nullable" 4 2 false "" "" 24], 3, 32, Value.agg #[Value.string (ByteArray.mk #[]), Value.int IntKind.i64 0, Value.bool false]⟩ := by kernel_rfl
@[simp] theorem ty87 : tyOf Tryz.prog 87 = some ⟨TypeDesc.struct #[Field.mk "Name" 9 0 false "" "" 0, Field.mk "Kind" 3 1 false "" "" 16, Field.mk "Nullable" 4 2 false "" "" 24], 3, 32, Value.agg #[Value.string (ByteArray.mk #[]), Value.int IntKind.i64 0, Value.bool false]⟩ := by kernel_rfl
@[simp] theorem ty88 : tyOf Tryz.prog 88 = some ⟨TypeDesc.slice 87, 1, 24, Value.slice none 0 0⟩ := by kernel_rfl
@[simp] theorem ty97 : tyOf Tryz.prog 97 = some ⟨TypeDesc.struct #[Field.mk "Table" 9 0 false "" "" 0, Field.mk "Rows" 48 1 false "" "" 16], 2, 40, Value.agg #[Value.string (ByteArray.mk #[]), Value.slice none 0 0]⟩ := by kernel_rfl
@[simp] theorem ty98 : tyOf Tryz.prog 98 = some ⟨TypeDesc.struct #[Field.mk "Table" 9 0 false "" "" 0, Field.mk "Rows" 48 1 false "" "" 16], 2, 40, Value.agg #[Value.string (ByteArray.mk #[]), Value.slice none 0 0]⟩ := by kernel_rfl
@[simp] theorem ty99 : tyOf Tryz.prog 99 = some ⟨TypeDesc.slice 98, 1, 24, Value.slice none 0 0⟩ := by kernel_rfl
@[simp] theorem ty101 : tyOf Tryz.prog 101 = some ⟨TypeDesc.slice 9, 1, 24, Value.slice none 0 0⟩ := by kernel_rfl
@[simp] theorem ty102 : tyOf Tryz.prog 102 = some ⟨TypeDesc.slice 230, 1, 24, Value.slice none 0 0⟩ := by kernel_rfl
@[simp] theorem ty103 : tyOf Tryz.prog 103 = some ⟨TypeDesc.slice 265, 1, 24, Value.slice none 0 0⟩ := by kernel_rfl
@[simp] theorem ty104 : tyOf Tryz.prog 104 = some ⟨TypeDesc.slice 106, 1, 24, Value.slice none 0 0⟩ := by kernel_rfl
@[simp] theorem ty105 : tyOf Tryz.prog 105 = some ⟨TypeDesc.struct #[Field.mk "Kind" 3 0 false "" "" 0, Field.mk "Table" 9 1 false "" "" 8, Field.mk "Names" 101 2 false "" "" 24, Field.mk "Exprs" 102 3 false "" "" 48, Field.mk "Aggregates" 103 4 false "" "" 72, Field.mk "Descending" 35 5 false "" "" 96, Field.mk "Count" 3 6 false "" "" 120, Field.mk "Offset" 3 7 false "" "" 128, Field.mk "Inputs" 104 8 false "" "" 136], 9, 160, Value.agg #[Value.int IntKind.i64 0, Value.string (ByteArray.mk #[]), Value.slice none 0 0, Value.slice none 0 0, Value.slice none 0 0, Value.slice none 0 0, Value.int IntKind.i64 0, Value.int IntKind.i64 0, Value.slice none 0 0]⟩ := by kernel_rfl
@[simp] theorem ty106 : tyOf Tryz.prog 106 = some ⟨TypeDesc.struct #[Field.mk "Kind" 3 0 false "" "" 0, Field.mk "Table" 9 1 false "" "" 8, Field.mk "Names" 101 2 false "" "" 24, Field.mk "Exprs" 102 3 false "" "" 48, Field.mk "Aggregates" 103 4 false "" "" 72, Field.mk "Descending" 35 5 false "" "" 96, Field.mk "Count" 3 6 false "" "" 120, Field.mk "Offset" 3 7 false "" "" 128, Field.mk "Inputs" 104 8 false "" "" 136], 9, 160, Value.agg #[Value.int IntKind.i64 0, Value.string (ByteArray.mk #[]), Value.slice none 0 0, Value.slice none 0 0, Value.slice none 0 0, Value.slice none 0 0, Value.int IntKind.i64 0, Value.int IntKind.i64 0, Value.slice none 0 0]⟩ := by kernel_rfl
@[simp] theorem ty109 : tyOf Tryz.prog 109 = some ⟨TypeDesc.struct #[Field.mk "Columns" 88 0 false "" "" 0, Field.mk "Rows" 48 1 false "" "" 24], 2, 48, Value.agg #[Value.slice none 0 0, Value.slice none 0 0]⟩ := by kernel_rfl
@[simp] theorem ty110 : tyOf Tryz.prog 110 = some ⟨TypeDesc.struct #[Field.mk "Columns" 88 0 false "" "" 0, Field.mk "Rows" 48 1 false "" "" 24], 2, 48, Value.agg #[Value.slice none 0 0, Value.slice none 0 0]⟩ := by kernel_rfl
@[simp] theorem ty114 : tyOf Tryz.prog 114 = some ⟨TypeDesc.struct #[Field.mk "A" 3 0 false "" "" 0, Field.mk "B" 3 1 false "" "" 8, Field.mk "Divisor" 3 2 false "" "" 16], 3, 24, Value.agg #[Value.int IntKind.i64 0, Value.int IntKind.i64 0, Value.int IntKind.i64 0]⟩ := by kernel_rfl
@[simp] theorem ty115 : tyOf Tryz.prog 115 = some ⟨TypeDesc.struct #[Field.mk "A" 3 0 false "" "" 0, Field.mk "B" 3 1 false "" "" 8, Field.mk "Divisor" 3 2 false "" "" 16], 3, 24, Value.agg #[Value.int IntKind.i64 0, Value.int IntKind.i64 0, Value.int IntKind.i64 0]⟩ := by kernel_rfl
@[simp] theorem ty120 : tyOf Tryz.prog 120 = some ⟨TypeDesc.int IntKind.u64, 1, 8, Value.int IntKind.u64 0⟩ := by kernel_rfl
@[simp] theorem ty126 : tyOf Tryz.prog 126 = some ⟨TypeDesc.slice 48, 1, 24, Value.slice none 0 0⟩ := by kernel_rfl
@[simp] theorem ty184 : tyOf Tryz.prog 184 = some ⟨TypeDesc.pointer 187, 1, 8, Value.pointer none⟩ := by kernel_rfl
@[simp] theorem ty185 : tyOf Tryz.prog 185 = some ⟨TypeDesc.slice 189, 1, 24, Value.slice none 0 0⟩ := by kernel_rfl
@[simp] theorem ty186 : tyOf Tryz.prog 186 = some ⟨TypeDesc.struct #[Field.mk "by" 65 0 false "" "stemma/extsort" 0, Field.mk "l" 185 2 false "" "stemma/extsort" 48], 3, 72, Value.agg #[Value.slice none 0 0, Value.slice none 0 0, Value.slice none 0 0]⟩ := by kernel_rfl
@[simp] theorem ty187 : tyOf Tryz.prog 187 = some ⟨TypeDesc.struct #[Field.mk "by" 65 0 false "" "stemma/extsort" 0, Field.mk "l" 185 2 false "" "stemma/extsort" 48], 3, 72, Value.agg #[Value.slice none 0 0, Value.slice none 0 0, Value.slice none 0 0]⟩ := by kernel_rfl
@[simp] theorem ty188 : tyOf Tryz.prog 188 = some ⟨TypeDesc.struct #[Field.mk "row" 57 0 false "" "stemma/extsort" 0, Field.mk "run" 3 1 false "" "stemma/extsort" 24, Field.mk "rest" 48 2 false "" "stemma/extsort" 32], 3, 56, Value.agg #[Value.slice none 0 0, Value.int IntKind.i64 0, Value.slice none 0 0]⟩ := by kernel_rfl
@[simp] theorem ty189 : tyOf Tryz.prog 189 = some ⟨TypeDesc.struct #[Field.mk "row" 57 0 false "" "stemma/extsort" 0, Field.mk "run" 3 1 false "" "stemma/extsort" 24, Field.mk "rest" 48 2 false "" "stemma/extsort" 32], 3, 56, Value.agg #[Value.slice none 0 0, Value.int IntKind.i64 0, Value.slice none 0 0]⟩ := by kernel_rfl
@[simp] theorem ty229 : tyOf Tryz.prog 229 = some ⟨TypeDesc.struct #[Field.mk "Kind" 3 0 false "" "" 0, Field.mk "Name" 9 1 false "" "" 8, Field.mk "Index" 3 2 false "" "" 24, Field.mk "Value" 61 3 false "" "" 32, Field.mk "Args" 102 6 false "" "" 64], 7, 88, Value.agg #[Value.int IntKind.i64 0, Value.string (ByteArray.mk #[]), Value.int IntKind.i64 0, Value.int IntKind.i64 0, Value.int IntKind.i64 0, Value.string (ByteArray.mk #[]), Value.slice none 0 0]⟩ := by kernel_rfl
@[simp] theorem ty230 : tyOf Tryz.prog 230 = some ⟨TypeDesc.struct #[Field.mk "Kind" 3 0 false "" "" 0, Field.mk "Name" 9 1 false "" "" 8, Field.mk "Index" 3 2 false "" "" 24, Field.mk "Value" 61 3 false "" "" 32, Field.mk "Args" 102 6 false "" "" 64], 7, 88, Value.agg #[Value.int IntKind.i64 0, Value.string (ByteArray.mk #[]), Value.int IntKind.i64 0, Value.int IntKind.i64 0, Value.int IntKind.i64 0, Value.string (ByteArray.mk #[]), Value.slice none 0 0]⟩ := by kernel_rfl
@[simp] theorem ty264 : tyOf Tryz.prog 264 = some ⟨TypeDesc.struct #[Field.mk "Name" 9 0 false "" "" 0, Field.mk "Function" 9 1 false "" "" 16, Field.mk "Args" 102 2 false "" "" 32], 3, 56, Value.agg #[Value.string (ByteArray.mk #[]), Value.string (ByteArray.mk #[]), Value.slice none 0 0]⟩ := by kernel_rfl
@[simp] theorem ty265 : tyOf Tryz.prog 265 = some ⟨TypeDesc.struct #[Field.mk "Name" 9 0 false "" "" 0, Field.mk "Function" 9 1 false "" "" 16, Field.mk "Args" 102 2 false "" "" 32], 3, 56, Value.agg #[Value.string (ByteArray.mk #[]), Value.string (ByteArray.mk #[]), Value.slice none 0 0]⟩ := by kernel_rfl
theorem ent9 : Go.Rp.Enters Tryz.prog 9 := Go.Rp.enters_of Tryz.func9 (by kernel_rfl) rfl
theorem ent21 : Go.Rp.Enters Tryz.prog 21 := Go.Rp.enters_of Tryz.func21 (by kernel_rfl) rfl
theorem ent28 : Go.Rp.Enters Tryz.prog 28 := Go.Rp.enters_of Tryz.func28 (by kernel_rfl) rfl
theorem ent29 : Go.Rp.Enters Tryz.prog 29 := Go.Rp.enters_of Tryz.func29 (by kernel_rfl) rfl
theorem ent30 : Go.Rp.Enters Tryz.prog 30 := Go.Rp.enters_of Tryz.func30 (by kernel_rfl) rfl
theorem ent31 : Go.Rp.Enters Tryz.prog 31 := Go.Rp.enters_of Tryz.func31 (by kernel_rfl) rfl
theorem ent32 : Go.Rp.Enters Tryz.prog 32 := Go.Rp.enters_of Tryz.func32 (by kernel_rfl) rfl
theorem ent33 : Go.Rp.Enters Tryz.prog 33 := Go.Rp.enters_of Tryz.func33 (by kernel_rfl) rfl
theorem ent34 : Go.Rp.Enters Tryz.prog 34 := Go.Rp.enters_of Tryz.func34 (by kernel_rfl) rfl
theorem ent35 : Go.Rp.Enters Tryz.prog 35 := Go.Rp.enters_of Tryz.func35 (by kernel_rfl) rfl
theorem ent36 : Go.Rp.Enters Tryz.prog 36 := Go.Rp.enters_of Tryz.func36 (by kernel_rfl) rfl
theorem ent39 : Go.Rp.Enters Tryz.prog 39 := Go.Rp.enters_of Tryz.func39 (by kernel_rfl) rfl
theorem ent40 : Go.Rp.Enters Tryz.prog 40 := Go.Rp.enters_of Tryz.func40 (by kernel_rfl) rfl
theorem ent41 : Go.Rp.Enters Tryz.prog 41 := Go.Rp.enters_of Tryz.func41 (by kernel_rfl) rfl
theorem ent56 : Go.Rp.Enters Tryz.prog 56 := Go.Rp.enters_of Tryz.func56 (by kernel_rfl) rfl
theorem ent57 : Go.Rp.Enters Tryz.prog 57 := Go.Rp.enters_of Tryz.func57 (by kernel_rfl) rfl
theorem ent65 : Go.Rp.Enters Tryz.prog 65 := Go.Rp.enters_of Tryz.func65 (by kernel_rfl) rfl
theorem ent66 : Go.Rp.Enters Tryz.prog 66 := Go.Rp.enters_of Tryz.func66 (by kernel_rfl) rfl
theorem ent67 : Go.Rp.Enters Tryz.prog 67 := Go.Rp.enters_of Tryz.func67 (by kernel_rfl) rfl
theorem ent68 : Go.Rp.Enters Tryz.prog 68 := Go.Rp.enters_of Tryz.func68 (by kernel_rfl) rfl
theorem ent69 : Go.Rp.Enters Tryz.prog 69 := Go.Rp.enters_of Tryz.func69 (by kernel_rfl) rfl
theorem ent70 : Go.Rp.Enters Tryz.prog 70 := Go.Rp.enters_of Tryz.func70 (by kernel_rfl) rfl
theorem ent71 : Go.Rp.Enters Tryz.prog 71 := Go.Rp.enters_of Tryz.func71 (by kernel_rfl) rfl
theorem ent72 : Go.Rp.Enters Tryz.prog 72 := Go.Rp.enters_of Tryz.func72 (by kernel_rfl) rfl
theorem ent73 : Go.Rp.Enters Tryz.prog 73 := Go.Rp.enters_of Tryz.func73 (by kernel_rfl) rfl
theorem ent74 : Go.Rp.Enters Tryz.prog 74 := Go.Rp.enters_of Tryz.func74 (by kernel_rfl) rfl
theorem ent75 : Go.Rp.Enters Tryz.prog 75 := Go.Rp.enters_of Tryz.func75 (by kernel_rfl) rfl
theorem ent76 : Go.Rp.Enters Tryz.prog 76 := Go.Rp.enters_of Tryz.func76 (by kernel_rfl) rfl
theorem ent77 : Go.Rp.Enters Tryz.prog 77 := Go.Rp.enters_of Tryz.func77 (by kernel_rfl) rfl
theorem ent78 : Go.Rp.Enters Tryz.prog 78 := Go.Rp.enters_of Tryz.func78 (by kernel_rfl) rfl
theorem ent79 : Go.Rp.Enters Tryz.prog 79 := Go.Rp.enters_of Tryz.func79 (by kernel_rfl) rfl
theorem ent80 : Go.Rp.Enters Tryz.prog 80 := Go.Rp.enters_of Tryz.func80 (by kernel_rfl) rfl
theorem ent81 : Go.Rp.Enters Tryz.prog 81 := Go.Rp.enters_of Tryz.func81 (by kernel_rfl) rfl
theorem ent84 : Go.Rp.Enters Tryz.prog 84 := Go.Rp.enters_of Tryz.func84 (by kernel_rfl) rfl
theorem ent85 : Go.Rp.Enters Tryz.prog 85 := Go.Rp.enters_of Tryz.func85 (by kernel_rfl) rfl
theorem ent86 : Go.Rp.Enters Tryz.prog 86 := Go.Rp.enters_of Tryz.func86 (by kernel_rfl) rfl
theorem ent87 : Go.Rp.Enters Tryz.prog 87 := Go.Rp.enters_of Tryz.func87 (by kernel_rfl) rfl
theorem ent89 : Go.Rp.Enters Tryz.prog 89 := Go.Rp.enters_of Tryz.func89 (by kernel_rfl) rfl
theorem ent98 : Go.Rp.Enters Tryz.prog 98 := Go.Rp.enters_of Tryz.func98 (by kernel_rfl) rfl
theorem ent100 : Go.Rp.Enters Tryz.prog 100 := Go.Rp.enters_of Tryz.func100 (by kernel_rfl) rfl
theorem ent101 : Go.Rp.Enters Tryz.prog 101 := Go.Rp.enters_of Tryz.func101 (by kernel_rfl) rfl
theorem ent102 : Go.Rp.Enters Tryz.prog 102 := Go.Rp.enters_of Tryz.func102 (by kernel_rfl) rfl
theorem ent103 : Go.Rp.Enters Tryz.prog 103 := Go.Rp.enters_of Tryz.func103 (by kernel_rfl) rfl
theorem ent104 : Go.Rp.Enters Tryz.prog 104 := Go.Rp.enters_of Tryz.func104 (by kernel_rfl) rfl
theorem ent105 : Go.Rp.Enters Tryz.prog 105 := Go.Rp.enters_of Tryz.func105 (by kernel_rfl) rfl
theorem ent106 : Go.Rp.Enters Tryz.prog 106 := Go.Rp.enters_of Tryz.func106 (by kernel_rfl) rfl
theorem ent107 : Go.Rp.Enters Tryz.prog 107 := Go.Rp.enters_of Tryz.func107 (by kernel_rfl) rfl
theorem ent108 : Go.Rp.Enters Tryz.prog 108 := Go.Rp.enters_of Tryz.func108 (by kernel_rfl) rfl
theorem ent109 : Go.Rp.Enters Tryz.prog 109 := Go.Rp.enters_of Tryz.func109 (by kernel_rfl) rfl
theorem ent110 : Go.Rp.Enters Tryz.prog 110 := Go.Rp.enters_of Tryz.func110 (by kernel_rfl) rfl
theorem ent111 : Go.Rp.Enters Tryz.prog 111 := Go.Rp.enters_of Tryz.func111 (by kernel_rfl) rfl
theorem ent112 : Go.Rp.Enters Tryz.prog 112 := Go.Rp.enters_of Tryz.func112 (by kernel_rfl) rfl
theorem ent113 : Go.Rp.Enters Tryz.prog 113 := Go.Rp.enters_of Tryz.func113 (by kernel_rfl) rfl
theorem ent114 : Go.Rp.Enters Tryz.prog 114 := Go.Rp.enters_of Tryz.func114 (by kernel_rfl) rfl
theorem ent115 : Go.Rp.Enters Tryz.prog 115 := Go.Rp.enters_of Tryz.func115 (by kernel_rfl) rfl
theorem ent116 : Go.Rp.Enters Tryz.prog 116 := Go.Rp.enters_of Tryz.func116 (by kernel_rfl) rfl
theorem ent120 : Go.Rp.Enters Tryz.prog 120 := Go.Rp.enters_of Tryz.func120 (by kernel_rfl) rfl
theorem ent131 : Go.Rp.Enters Tryz.prog 131 := Go.Rp.enters_of Tryz.func131 (by kernel_rfl) rfl
theorem ent132 : Go.Rp.Enters Tryz.prog 132 := Go.Rp.enters_of Tryz.func132 (by kernel_rfl) rfl
theorem ent133 : Go.Rp.Enters Tryz.prog 133 := Go.Rp.enters_of Tryz.func133 (by kernel_rfl) rfl
theorem ent134 : Go.Rp.Enters Tryz.prog 134 := Go.Rp.enters_of Tryz.func134 (by kernel_rfl) rfl
theorem ent135 : Go.Rp.Enters Tryz.prog 135 := Go.Rp.enters_of Tryz.func135 (by kernel_rfl) rfl
theorem ent168 : Go.Rp.Enters Tryz.prog 168 := Go.Rp.enters_of Tryz.func168 (by kernel_rfl) rfl
theorem ent169 : Go.Rp.Enters Tryz.prog 169 := Go.Rp.enters_of Tryz.func169 (by kernel_rfl) rfl
theorem ent204 : Go.Rp.Enters Tryz.prog 204 := Go.Rp.enters_of Tryz.func204 (by kernel_rfl) rfl
theorem ent205 : Go.Rp.Enters Tryz.prog 205 := Go.Rp.enters_of Tryz.func205 (by kernel_rfl) rfl
theorem ent229 : Go.Rp.Enters Tryz.prog 229 := Go.Rp.enters_of Tryz.func229 (by kernel_rfl) rfl
theorem ent285 : Go.Rp.Enters Tryz.prog 285 := Go.Rp.enters_of Tryz.func285 (by kernel_rfl) rfl
theorem ent286 : Go.Rp.Enters Tryz.prog 286 := Go.Rp.enters_of Tryz.func286 (by kernel_rfl) rfl
theorem ent287 : Go.Rp.Enters Tryz.prog 287 := Go.Rp.enters_of Tryz.func287 (by kernel_rfl) rfl
theorem ent288 : Go.Rp.Enters Tryz.prog 288 := Go.Rp.enters_of Tryz.func288 (by kernel_rfl) rfl
end Go.Proofs.YtimkkjiplioohaaGreatDoor
