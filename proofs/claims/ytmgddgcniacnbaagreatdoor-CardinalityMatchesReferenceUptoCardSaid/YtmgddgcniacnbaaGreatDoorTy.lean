/- The types of the program, as the abstract machine asks for them. -/
import Derived.Test.YtmgddgcniacnbaaGreatDoorProg
import Derived.Test.YtmgddgcniacnbaaGreatDoorA5
import Derived.KernelRfl
namespace Go.Proofs.YtmgddgcniacnbaaGreatDoor
open Go.Ab

@[simp] theorem ty3 : tyOf Tryz.prog 3 = some ⟨TypeDesc.int IntKind.i64, 1, 8, Value.int IntKind.i64 0⟩ := by kernel_rfl
@[simp] theorem ty4 : tyOf Tryz.prog 4 = some ⟨TypeDesc.bool, 1, 1, Value.bool false⟩ := by kernel_rfl
@[simp] theorem ty5 : tyOf Tryz.prog 5 = some ⟨TypeDesc.int IntKind.u8, 1, 1, Value.int IntKind.u8 0⟩ := by kernel_rfl
@[simp] theorem ty9 : tyOf Tryz.prog 9 = some ⟨TypeDesc.string, 1, 16, Value.string (ByteArray.mk #[])⟩ := by kernel_rfl
@[simp] theorem ty22 : tyOf Tryz.prog 22 = some ⟨TypeDesc.slice 56, 1, 24, Value.slice none 0 0⟩ := by kernel_rfl
@[simp] theorem ty23 : tyOf Tryz.prog 23 = some ⟨TypeDesc.slice 82, 1, 24, Value.slice none 0 0⟩ := by kernel_rfl
@[simp] theorem ty24 : tyOf Tryz.prog 24 = some ⟨TypeDesc.slice 88, 1, 24, Value.slice none 0 0⟩ := by kernel_rfl
@[simp] theorem ty26 : tyOf Tryz.prog 26 = some ⟨TypeDesc.struct #[Field.mk "Tables" 22 0 false "" "" 0, Field.mk "ForeignKeys" 23 1 false "" "" 24, Field.mk "Constraints" 24 2 false "" "" 48], 3, 72, Value.agg #[Value.slice none 0 0, Value.slice none 0 0, Value.slice none 0 0]⟩ := by kernel_rfl
@[simp] theorem ty27 : tyOf Tryz.prog 27 = some ⟨TypeDesc.slice 41, 1, 24, Value.slice none 0 0⟩ := by kernel_rfl
@[simp] theorem ty28 : tyOf Tryz.prog 28 = some ⟨TypeDesc.slice 9, 1, 24, Value.slice none 0 0⟩ := by kernel_rfl
@[simp] theorem ty29 : tyOf Tryz.prog 29 = some ⟨TypeDesc.slice 76, 1, 24, Value.slice none 0 0⟩ := by kernel_rfl
@[simp] theorem ty30 : tyOf Tryz.prog 30 = some ⟨TypeDesc.slice 79, 1, 24, Value.slice none 0 0⟩ := by kernel_rfl
@[simp] theorem ty31 : tyOf Tryz.prog 31 = some ⟨TypeDesc.slice 4, 1, 24, Value.slice none 0 0⟩ := by kernel_rfl
@[simp] theorem ty32 : tyOf Tryz.prog 32 = some ⟨TypeDesc.slice 34, 1, 24, Value.slice none 0 0⟩ := by kernel_rfl
@[simp] theorem ty34 : tyOf Tryz.prog 34 = some ⟨TypeDesc.struct #[Field.mk "Kind" 3 0 false "" "" 0, Field.mk "Table" 9 1 false "" "" 8, Field.mk "Names" 28 2 false "" "" 24, Field.mk "Exprs" 29 3 false "" "" 48, Field.mk "Aggregates" 30 4 false "" "" 72, Field.mk "Descending" 31 5 false "" "" 96, Field.mk "Count" 3 6 false "" "" 120, Field.mk "Offset" 3 7 false "" "" 128, Field.mk "Inputs" 32 8 false "" "" 136], 9, 160, Value.agg #[Value.int IntKind.i64 0, Value.string (ByteArray.mk #[]), Value.slice none 0 0, Value.slice none 0 0, Value.slice none 0 0, Value.slice none 0 0, Value.int IntKind.i64 0, Value.int IntKind.i64 0, Value.slice none 0 0]⟩ := by kernel_rfl
@[simp] theorem ty41 : tyOf Tryz.prog 41 = some ⟨TypeDesc.struct #[Field.mk "Table" 9 0 false "" "" 0, Field.mk "Rows" 3 1 false "" "" 16], 2, 24, Value.agg #[Value.string (ByteArray.mk #[]), Value.int IntKind.i64 0]⟩ := by kernel_rfl
@[simp] theorem ty43 : tyOf Tryz.prog 43 = some ⟨TypeDesc.slice 53, 1, 24, Value.slice none 0 0⟩ := by kernel_rfl
@[simp] theorem ty49 : tyOf Tryz.prog 49 = some ⟨TypeDesc.struct #[Field.mk "Low" 3 0 false "" "" 0, Field.mk "High" 3 1 false "" "" 8], 2, 16, Value.agg #[Value.int IntKind.i64 0, Value.int IntKind.i64 0]⟩ := by kernel_rfl
@[simp] theorem ty53 : tyOf Tryz.prog 53 = some ⟨TypeDesc.struct #[Field.mk "Name" 9 0 false "" "" 0, Field.mk "Kind" 3 1 false "" "" 16, Field.mk "Nullable" 4 2 false "" "" 24], 3, 32, Value.agg #[Value.string (ByteArray.mk #[]), Value.int IntKind.i64 0, Value.bool false]⟩ := by kernel_rfl
@[simp] theorem ty54 : tyOf Tryz.prog 54 = some ⟨TypeDesc.slice 3, 1, 24, Value.slice none 0 0⟩ := by kernel_rfl
@[simp] theorem ty56 : tyOf Tryz.prog 56 = some ⟨TypeDesc.struct #[Field.mk "Name" 9 0 false "" "" 0, Field.mk "Columns" 43 1 false "" "" 16, Field.mk "PrimaryKey" 54 2 false "" "" 40], 3, 64, Value.agg #[Value.string (ByteArray.mk #[]), Value.slice none 0 0, Value.slice none 0 0]⟩ := by kernel_rfl
@[simp] theorem ty58 : tyOf Tryz.prog 58 = some ⟨TypeDesc.struct #[Field.mk "Kind" 3 0 false "" "" 0, Field.mk "Int" 3 1 false "" "" 8, Field.mk "Text" 9 2 false "" "" 16], 3, 32, Value.agg #[Value.int IntKind.i64 0, Value.int IntKind.i64 0, Value.string (ByteArray.mk #[])]⟩ := by kernel_rfl
@[simp] theorem ty76 : tyOf Tryz.prog 76 = some ⟨TypeDesc.struct #[Field.mk "Kind" 3 0 false "" "" 0, Field.mk "Name" 9 1 false "" "" 8, Field.mk "Index" 3 2 false "" "" 24, Field.mk "Value" 58 3 false "" "" 32, Field.mk "Args" 29 6 false "" "" 64], 7, 88, Value.agg #[Value.int IntKind.i64 0, Value.string (ByteArray.mk #[]), Value.int IntKind.i64 0, Value.int IntKind.i64 0, Value.int IntKind.i64 0, Value.string (ByteArray.mk #[]), Value.slice none 0 0]⟩ := by kernel_rfl
@[simp] theorem ty79 : tyOf Tryz.prog 79 = some ⟨TypeDesc.struct #[Field.mk "Name" 9 0 false "" "" 0, Field.mk "Function" 9 1 false "" "" 16, Field.mk "Args" 29 2 false "" "" 32], 3, 56, Value.agg #[Value.string (ByteArray.mk #[]), Value.string (ByteArray.mk #[]), Value.slice none 0 0]⟩ := by kernel_rfl
@[simp] theorem ty82 : tyOf Tryz.prog 82 = some ⟨TypeDesc.struct #[Field.mk "Table" 9 0 false "" "" 0, Field.mk "Columns" 54 1 false "" "" 16, Field.mk "RefTable" 9 2 false "" "" 40], 3, 56, Value.agg #[Value.string (ByteArray.mk #[]), Value.slice none 0 0, Value.string (ByteArray.mk #[])]⟩ := by kernel_rfl
@[simp] theorem ty88 : tyOf Tryz.prog 88 = some ⟨TypeDesc.struct #[Field.mk "Table" 9 0 false "" "" 0, Field.mk "Left" 3 1 false "" "" 16, Field.mk "Op" 9 2 false "" "" 24, Field.mk "Right" 3 3 false "" "" 40, Field.mk "Value" 58 4 false "" "" 48], 7, 80, Value.agg #[Value.string (ByteArray.mk #[]), Value.int IntKind.i64 0, Value.string (ByteArray.mk #[]), Value.int IntKind.i64 0, Value.int IntKind.i64 0, Value.int IntKind.i64 0, Value.string (ByteArray.mk #[])]⟩ := by kernel_rfl
@[simp] theorem ty93 : tyOf Tryz.prog 93 = some ⟨TypeDesc.array 2 3, 2, 16, Value.agg #[Value.int IntKind.i64 0, Value.int IntKind.i64 0]⟩ := by kernel_rfl
@[simp] theorem ty96 : tyOf Tryz.prog 96 = some ⟨TypeDesc.slice 49, 1, 24, Value.slice none 0 0⟩ := by kernel_rfl
@[simp] theorem ty107 : tyOf Tryz.prog 107 = some ⟨TypeDesc.func #[9] #[4] false, 1, 8, Value.nilFunc⟩ := by kernel_rfl
@[simp] theorem ty122 : tyOf Tryz.prog 122 = some ⟨TypeDesc.struct #[Field.mk "s" 26 0 false "" "stemma/query" 0, Field.mk "vars" 43 3 false "" "stemma/query" 72], 4, 96, Value.agg #[Value.slice none 0 0, Value.slice none 0 0, Value.slice none 0 0, Value.slice none 0 0]⟩ := by kernel_rfl
@[simp] theorem ty144 : tyOf Tryz.prog 144 = some ⟨TypeDesc.slice 5, 1, 24, Value.slice none 0 0⟩ := by kernel_rfl
@[simp] theorem ty151 : tyOf Tryz.prog 151 = some ⟨TypeDesc.array 8 4, 8, 8, Value.agg #[Value.bool false, Value.bool false, Value.bool false, Value.bool false, Value.bool false, Value.bool false, Value.bool false, Value.bool false]⟩ := by kernel_rfl
@[simp] theorem ty152 : tyOf Tryz.prog 152 = some ⟨TypeDesc.func #[76] #[] false, 1, 8, Value.nilFunc⟩ := by kernel_rfl
@[simp] theorem ty154 : tyOf Tryz.prog 154 = some ⟨TypeDesc.slice 43, 1, 24, Value.slice none 0 0⟩ := by kernel_rfl
theorem ent4 : Go.Rp.Enters Tryz.prog 4 := Go.Rp.enters_of Tryz.func4 (by kernel_rfl) rfl
theorem ent5 : Go.Rp.Enters Tryz.prog 5 := Go.Rp.enters_of Tryz.func5 (by kernel_rfl) rfl
theorem ent6 : Go.Rp.Enters Tryz.prog 6 := Go.Rp.enters_of Tryz.func6 (by kernel_rfl) rfl
theorem ent7 : Go.Rp.Enters Tryz.prog 7 := Go.Rp.enters_of Tryz.func7 (by kernel_rfl) rfl
theorem ent8 : Go.Rp.Enters Tryz.prog 8 := Go.Rp.enters_of Tryz.func8 (by kernel_rfl) rfl
theorem ent9 : Go.Rp.Enters Tryz.prog 9 := Go.Rp.enters_of Tryz.func9 (by kernel_rfl) rfl
theorem ent10 : Go.Rp.Enters Tryz.prog 10 := Go.Rp.enters_of Tryz.func10 (by kernel_rfl) rfl
theorem ent11 : Go.Rp.Enters Tryz.prog 11 := Go.Rp.enters_of Tryz.func11 (by kernel_rfl) rfl
theorem ent18 : Go.Rp.Enters Tryz.prog 18 := Go.Rp.enters_of Tryz.func18 (by kernel_rfl) rfl
theorem ent19 : Go.Rp.Enters Tryz.prog 19 := Go.Rp.enters_of Tryz.func19 (by kernel_rfl) rfl
theorem ent20 : Go.Rp.Enters Tryz.prog 20 := Go.Rp.enters_of Tryz.func20 (by kernel_rfl) rfl
theorem ent21 : Go.Rp.Enters Tryz.prog 21 := Go.Rp.enters_of Tryz.func21 (by kernel_rfl) rfl
theorem ent22 : Go.Rp.Enters Tryz.prog 22 := Go.Rp.enters_of Tryz.func22 (by kernel_rfl) rfl
theorem ent23 : Go.Rp.Enters Tryz.prog 23 := Go.Rp.enters_of Tryz.func23 (by kernel_rfl) rfl
theorem ent24 : Go.Rp.Enters Tryz.prog 24 := Go.Rp.enters_of Tryz.func24 (by kernel_rfl) rfl
theorem ent25 : Go.Rp.Enters Tryz.prog 25 := Go.Rp.enters_of Tryz.func25 (by kernel_rfl) rfl
theorem ent26 : Go.Rp.Enters Tryz.prog 26 := Go.Rp.enters_of Tryz.func26 (by kernel_rfl) rfl
theorem ent27 : Go.Rp.Enters Tryz.prog 27 := Go.Rp.enters_of Tryz.func27 (by kernel_rfl) rfl
theorem ent28 : Go.Rp.Enters Tryz.prog 28 := Go.Rp.enters_of Tryz.func28 (by kernel_rfl) rfl
theorem ent29 : Go.Rp.Enters Tryz.prog 29 := Go.Rp.enters_of Tryz.func29 (by kernel_rfl) rfl
theorem ent30 : Go.Rp.Enters Tryz.prog 30 := Go.Rp.enters_of Tryz.func30 (by kernel_rfl) rfl
theorem ent31 : Go.Rp.Enters Tryz.prog 31 := Go.Rp.enters_of Tryz.func31 (by kernel_rfl) rfl
theorem ent32 : Go.Rp.Enters Tryz.prog 32 := Go.Rp.enters_of Tryz.func32 (by kernel_rfl) rfl
theorem ent39 : Go.Rp.Enters Tryz.prog 39 := Go.Rp.enters_of Tryz.func39 (by kernel_rfl) rfl
theorem ent40 : Go.Rp.Enters Tryz.prog 40 := Go.Rp.enters_of Tryz.func40 (by kernel_rfl) rfl
theorem ent41 : Go.Rp.Enters Tryz.prog 41 := Go.Rp.enters_of Tryz.func41 (by kernel_rfl) rfl
theorem ent42 : Go.Rp.Enters Tryz.prog 42 := Go.Rp.enters_of Tryz.func42 (by kernel_rfl) rfl
theorem ent43 : Go.Rp.Enters Tryz.prog 43 := Go.Rp.enters_of Tryz.func43 (by kernel_rfl) rfl
theorem ent44 : Go.Rp.Enters Tryz.prog 44 := Go.Rp.enters_of Tryz.func44 (by kernel_rfl) rfl
theorem ent45 : Go.Rp.Enters Tryz.prog 45 := Go.Rp.enters_of Tryz.func45 (by kernel_rfl) rfl
theorem ent46 : Go.Rp.Enters Tryz.prog 46 := Go.Rp.enters_of Tryz.func46 (by kernel_rfl) rfl
theorem ent47 : Go.Rp.Enters Tryz.prog 47 := Go.Rp.enters_of Tryz.func47 (by kernel_rfl) rfl
theorem ent48 : Go.Rp.Enters Tryz.prog 48 := Go.Rp.enters_of Tryz.func48 (by kernel_rfl) rfl
theorem ent49 : Go.Rp.Enters Tryz.prog 49 := Go.Rp.enters_of Tryz.func49 (by kernel_rfl) rfl
theorem ent50 : Go.Rp.Enters Tryz.prog 50 := Go.Rp.enters_of Tryz.func50 (by kernel_rfl) rfl
theorem ent51 : Go.Rp.Enters Tryz.prog 51 := Go.Rp.enters_of Tryz.func51 (by kernel_rfl) rfl
theorem ent52 : Go.Rp.Enters Tryz.prog 52 := Go.Rp.enters_of Tryz.func52 (by kernel_rfl) rfl
theorem ent53 : Go.Rp.Enters Tryz.prog 53 := Go.Rp.enters_of Tryz.func53 (by kernel_rfl) rfl
theorem ent54 : Go.Rp.Enters Tryz.prog 54 := Go.Rp.enters_of Tryz.func54 (by kernel_rfl) rfl
theorem ent55 : Go.Rp.Enters Tryz.prog 55 := Go.Rp.enters_of Tryz.func55 (by kernel_rfl) rfl
theorem ent67 : Go.Rp.Enters Tryz.prog 67 := Go.Rp.enters_of Tryz.func67 (by kernel_rfl) rfl
theorem ent68 : Go.Rp.Enters Tryz.prog 68 := Go.Rp.enters_of Tryz.func68 (by kernel_rfl) rfl
theorem ent69 : Go.Rp.Enters Tryz.prog 69 := Go.Rp.enters_of Tryz.func69 (by kernel_rfl) rfl
theorem ent70 : Go.Rp.Enters Tryz.prog 70 := Go.Rp.enters_of Tryz.func70 (by kernel_rfl) rfl
theorem ent71 : Go.Rp.Enters Tryz.prog 71 := Go.Rp.enters_of Tryz.func71 (by kernel_rfl) rfl
theorem ent72 : Go.Rp.Enters Tryz.prog 72 := Go.Rp.enters_of Tryz.func72 (by kernel_rfl) rfl
theorem ent73 : Go.Rp.Enters Tryz.prog 73 := Go.Rp.enters_of Tryz.func73 (by kernel_rfl) rfl
theorem ent74 : Go.Rp.Enters Tryz.prog 74 := Go.Rp.enters_of Tryz.func74 (by kernel_rfl) rfl
theorem ent75 : Go.Rp.Enters Tryz.prog 75 := Go.Rp.enters_of Tryz.func75 (by kernel_rfl) rfl
theorem ent76 : Go.Rp.Enters Tryz.prog 76 := Go.Rp.enters_of Tryz.func76 (by kernel_rfl) rfl
theorem ent77 : Go.Rp.Enters Tryz.prog 77 := Go.Rp.enters_of Tryz.func77 (by kernel_rfl) rfl
theorem ent78 : Go.Rp.Enters Tryz.prog 78 := Go.Rp.enters_of Tryz.func78 (by kernel_rfl) rfl
theorem ent90 : Go.Rp.Enters Tryz.prog 90 := Go.Rp.enters_of Tryz.func90 (by kernel_rfl) rfl
theorem ent105 : Go.Rp.Enters Tryz.prog 105 := Go.Rp.enters_of Tryz.func105 (by kernel_rfl) rfl
theorem ent106 : Go.Rp.Enters Tryz.prog 106 := Go.Rp.enters_of Tryz.func106 (by kernel_rfl) rfl
theorem ent107 : Go.Rp.Enters Tryz.prog 107 := Go.Rp.enters_of Tryz.func107 (by kernel_rfl) rfl
theorem ent108 : Go.Rp.Enters Tryz.prog 108 := Go.Rp.enters_of Tryz.func108 (by kernel_rfl) rfl
theorem ent109 : Go.Rp.Enters Tryz.prog 109 := Go.Rp.enters_of Tryz.func109 (by kernel_rfl) rfl
theorem ent110 : Go.Rp.Enters Tryz.prog 110 := Go.Rp.enters_of Tryz.func110 (by kernel_rfl) rfl
theorem ent111 : Go.Rp.Enters Tryz.prog 111 := Go.Rp.enters_of Tryz.func111 (by kernel_rfl) rfl
theorem ent112 : Go.Rp.Enters Tryz.prog 112 := Go.Rp.enters_of Tryz.func112 (by kernel_rfl) rfl
theorem ent113 : Go.Rp.Enters Tryz.prog 113 := Go.Rp.enters_of Tryz.func113 (by kernel_rfl) rfl
theorem ent114 : Go.Rp.Enters Tryz.prog 114 := Go.Rp.enters_of Tryz.func114 (by kernel_rfl) rfl
theorem ent115 : Go.Rp.Enters Tryz.prog 115 := Go.Rp.enters_of Tryz.func115 (by kernel_rfl) rfl
theorem ent116 : Go.Rp.Enters Tryz.prog 116 := Go.Rp.enters_of Tryz.func116 (by kernel_rfl) rfl
theorem ent117 : Go.Rp.Enters Tryz.prog 117 := Go.Rp.enters_of Tryz.func117 (by kernel_rfl) rfl
theorem ent118 : Go.Rp.Enters Tryz.prog 118 := Go.Rp.enters_of Tryz.func118 (by kernel_rfl) rfl
theorem ent119 : Go.Rp.Enters Tryz.prog 119 := Go.Rp.enters_of Tryz.func119 (by kernel_rfl) rfl
theorem ent136 : Go.Rp.Enters Tryz.prog 136 := Go.Rp.enters_of Tryz.func136 (by kernel_rfl) rfl
theorem ent143 : Go.Rp.Enters Tryz.prog 143 := Go.Rp.enters_of Tryz.func143 (by kernel_rfl) rfl
theorem ent144 : Go.Rp.Enters Tryz.prog 144 := Go.Rp.enters_of Tryz.func144 (by kernel_rfl) rfl
theorem ent145 : Go.Rp.Enters Tryz.prog 145 := Go.Rp.enters_of Tryz.func145 (by kernel_rfl) rfl
theorem ent146 : Go.Rp.Enters Tryz.prog 146 := Go.Rp.enters_of Tryz.func146 (by kernel_rfl) rfl
theorem ent147 : Go.Rp.Enters Tryz.prog 147 := Go.Rp.enters_of Tryz.func147 (by kernel_rfl) rfl
theorem ent148 : Go.Rp.Enters Tryz.prog 148 := Go.Rp.enters_of Tryz.func148 (by kernel_rfl) rfl
theorem ent149 : Go.Rp.Enters Tryz.prog 149 := Go.Rp.enters_of Tryz.func149 (by kernel_rfl) rfl
theorem ent159 : Go.Rp.Enters Tryz.prog 159 := Go.Rp.enters_of Tryz.func159 (by kernel_rfl) rfl
theorem ent168 : Go.Rp.Enters Tryz.prog 168 := Go.Rp.enters_of Tryz.func168 (by kernel_rfl) rfl
theorem ent169 : Go.Rp.Enters Tryz.prog 169 := Go.Rp.enters_of Tryz.func169 (by kernel_rfl) rfl
theorem ent170 : Go.Rp.Enters Tryz.prog 170 := Go.Rp.enters_of Tryz.func170 (by kernel_rfl) rfl
theorem ent185 : Go.Rp.Enters Tryz.prog 185 := Go.Rp.enters_of Tryz.func185 (by kernel_rfl) rfl
theorem ent186 : Go.Rp.Enters Tryz.prog 186 := Go.Rp.enters_of Tryz.func186 (by kernel_rfl) rfl
theorem ent187 : Go.Rp.Enters Tryz.prog 187 := Go.Rp.enters_of Tryz.func187 (by kernel_rfl) rfl
theorem ent188 : Go.Rp.Enters Tryz.prog 188 := Go.Rp.enters_of Tryz.func188 (by kernel_rfl) rfl
theorem ent189 : Go.Rp.Enters Tryz.prog 189 := Go.Rp.enters_of Tryz.func189 (by kernel_rfl) rfl
theorem ent190 : Go.Rp.Enters Tryz.prog 190 := Go.Rp.enters_of Tryz.func190 (by kernel_rfl) rfl
theorem ent200 : Go.Rp.Enters Tryz.prog 200 := Go.Rp.enters_of Tryz.func200 (by kernel_rfl) rfl
end Go.Proofs.YtmgddgcniacnbaaGreatDoor
