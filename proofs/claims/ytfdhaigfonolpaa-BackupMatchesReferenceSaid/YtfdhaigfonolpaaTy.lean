/- The types of the program, as the abstract machine asks for them. -/
import Derived.Test.YtfdhaigfonolpaaProg
import Derived.Test.YtfdhaigfonolpaaA4
import Derived.KernelRfl
namespace Go.Proofs.Ytfdhaigfonolpaa
open Go.Ab

@[simp] theorem ty3 : tyOf Try.prog 3 = some ⟨TypeDesc.int IntKind.i64, 1, 8, Value.int IntKind.i64 0⟩ := by kernel_rfl
@[simp] theorem ty5 : tyOf Try.prog 5 = some ⟨TypeDesc.int IntKind.u8, 1, 1, Value.int IntKind.u8 0⟩ := by kernel_rfl
@[simp] theorem ty9 : tyOf Try.prog 9 = some ⟨TypeDesc.string, 1, 16, Value.string (ByteArray.mk #[])⟩ := by kernel_rfl
@[simp] theorem ty22 : tyOf Try.prog 22 = some ⟨TypeDesc.slice 40, 1, 24, Value.slice none 0 0⟩ := by kernel_rfl
@[simp] theorem ty23 : tyOf Try.prog 23 = some ⟨TypeDesc.slice 9, 1, 24, Value.slice none 0 0⟩ := by kernel_rfl
@[simp] theorem ty24 : tyOf Try.prog 24 = some ⟨TypeDesc.slice 30, 1, 24, Value.slice none 0 0⟩ := by kernel_rfl
@[simp] theorem ty25 : tyOf Try.prog 25 = some ⟨TypeDesc.pointer 68, 1, 8, Value.pointer none⟩ := by kernel_rfl
@[simp] theorem ty30 : tyOf Try.prog 30 = some ⟨TypeDesc.slice 71, 1, 24, Value.slice none 0 0⟩ := by kernel_rfl
@[simp] theorem ty32 : tyOf Try.prog 32 = some ⟨TypeDesc.pointer 39, 1, 8, Value.pointer none⟩ := by kernel_rfl
@[simp] theorem ty33 : tyOf Try.prog 33 = some ⟨TypeDesc.map 9 30, 1, 8, Value.map none⟩ := by kernel_rfl
@[simp] theorem ty35 : tyOf Try.prog 35 = some ⟨TypeDesc.struct #[Field.mk "Time" 3 0 false "" "" 0, Field.mk "State" 33 1 false "" "" 8], 2, 16, Value.agg #[Value.int IntKind.i64 0, Value.map none]⟩ := by kernel_rfl
@[simp] theorem ty36 : tyOf Try.prog 36 = some ⟨TypeDesc.slice 35, 1, 24, Value.slice none 0 0⟩ := by kernel_rfl
@[simp] theorem ty37 : tyOf Try.prog 37 = some ⟨TypeDesc.slice 46, 1, 24, Value.slice none 0 0⟩ := by kernel_rfl
@[simp] theorem ty39 : tyOf Try.prog 39 = some ⟨TypeDesc.struct #[Field.mk "Backups" 36 0 false "" "" 0, Field.mk "Changes" 37 1 false "" "" 24, Field.mk "Earliest" 3 2 false "" "" 48], 3, 56, Value.agg #[Value.slice none 0 0, Value.slice none 0 0, Value.int IntKind.i64 0]⟩ := by kernel_rfl
@[simp] theorem ty40 : tyOf Try.prog 40 = some ⟨TypeDesc.slice 3, 1, 24, Value.slice none 0 0⟩ := by kernel_rfl
@[simp] theorem ty46 : tyOf Try.prog 46 = some ⟨TypeDesc.struct #[Field.mk "Time" 3 0 false "" "" 0, Field.mk "Key" 9 1 false "" "" 8, Field.mk "Row" 30 2 false "" "" 24], 3, 48, Value.agg #[Value.int IntKind.i64 0, Value.string (ByteArray.mk #[]), Value.slice none 0 0]⟩ := by kernel_rfl
@[simp] theorem ty55 : tyOf Try.prog 55 = some ⟨TypeDesc.slice 76, 1, 24, Value.slice none 0 0⟩ := by kernel_rfl
@[simp] theorem ty64 : tyOf Try.prog 64 = some ⟨TypeDesc.struct #[Field.mk "time" 3 0 false "" "stemma/backup" 0, Field.mk "records" 40 1 false "" "stemma/backup" 8], 2, 32, Value.agg #[Value.int IntKind.i64 0, Value.slice none 0 0]⟩ := by kernel_rfl
@[simp] theorem ty65 : tyOf Try.prog 65 = some ⟨TypeDesc.slice 64, 1, 24, Value.slice none 0 0⟩ := by kernel_rfl
@[simp] theorem ty66 : tyOf Try.prog 66 = some ⟨TypeDesc.slice 73, 1, 24, Value.slice none 0 0⟩ := by kernel_rfl
@[simp] theorem ty68 : tyOf Try.prog 68 = some ⟨TypeDesc.struct #[Field.mk "records" 55 0 false "" "stemma/backup" 0, Field.mk "refs" 40 1 false "" "stemma/backup" 24, Field.mk "backups" 65 2 false "" "stemma/backup" 48, Field.mk "changes" 66 3 false "" "stemma/backup" 72, Field.mk "earliest" 3 4 false "" "stemma/backup" 96], 5, 104, Value.agg #[Value.slice none 0 0, Value.slice none 0 0, Value.slice none 0 0, Value.slice none 0 0, Value.int IntKind.i64 0]⟩ := by kernel_rfl
@[simp] theorem ty71 : tyOf Try.prog 71 = some ⟨TypeDesc.struct #[Field.mk "Kind" 3 0 false "" "" 0, Field.mk "Int" 3 1 false "" "" 8, Field.mk "Text" 9 2 false "" "" 16], 3, 32, Value.agg #[Value.int IntKind.i64 0, Value.int IntKind.i64 0, Value.string (ByteArray.mk #[])]⟩ := by kernel_rfl
@[simp] theorem ty73 : tyOf Try.prog 73 = some ⟨TypeDesc.struct #[Field.mk "time" 3 0 false "" "stemma/backup" 0, Field.mk "key" 9 1 false "" "stemma/backup" 8, Field.mk "row" 30 2 false "" "stemma/backup" 24], 3, 48, Value.agg #[Value.int IntKind.i64 0, Value.string (ByteArray.mk #[]), Value.slice none 0 0]⟩ := by kernel_rfl
@[simp] theorem ty74 : tyOf Try.prog 74 = some ⟨TypeDesc.int IntKind.u64, 1, 8, Value.int IntKind.u64 0⟩ := by kernel_rfl
@[simp] theorem ty76 : tyOf Try.prog 76 = some ⟨TypeDesc.struct #[Field.mk "Key" 9 0 false "" "" 0, Field.mk "Row" 30 1 false "" "" 16], 2, 40, Value.agg #[Value.string (ByteArray.mk #[]), Value.slice none 0 0]⟩ := by kernel_rfl
@[simp] theorem ty96 : tyOf Try.prog 96 = some ⟨TypeDesc.slice 5, 1, 24, Value.slice none 0 0⟩ := by kernel_rfl
theorem ent4 : Go.Rp.Enters Try.prog 4 := Go.Rp.enters_of Try.func4 (by kernel_rfl) rfl
theorem ent5 : Go.Rp.Enters Try.prog 5 := Go.Rp.enters_of Try.func5 (by kernel_rfl) rfl
theorem ent6 : Go.Rp.Enters Try.prog 6 := Go.Rp.enters_of Try.func6 (by kernel_rfl) rfl
theorem ent7 : Go.Rp.Enters Try.prog 7 := Go.Rp.enters_of Try.func7 (by kernel_rfl) rfl
theorem ent8 : Go.Rp.Enters Try.prog 8 := Go.Rp.enters_of Try.func8 (by kernel_rfl) rfl
theorem ent9 : Go.Rp.Enters Try.prog 9 := Go.Rp.enters_of Try.func9 (by kernel_rfl) rfl
theorem ent10 : Go.Rp.Enters Try.prog 10 := Go.Rp.enters_of Try.func10 (by kernel_rfl) rfl
theorem ent11 : Go.Rp.Enters Try.prog 11 := Go.Rp.enters_of Try.func11 (by kernel_rfl) rfl
theorem ent12 : Go.Rp.Enters Try.prog 12 := Go.Rp.enters_of Try.func12 (by kernel_rfl) rfl
theorem ent13 : Go.Rp.Enters Try.prog 13 := Go.Rp.enters_of Try.func13 (by kernel_rfl) rfl
theorem ent14 : Go.Rp.Enters Try.prog 14 := Go.Rp.enters_of Try.func14 (by kernel_rfl) rfl
theorem ent15 : Go.Rp.Enters Try.prog 15 := Go.Rp.enters_of Try.func15 (by kernel_rfl) rfl
theorem ent16 : Go.Rp.Enters Try.prog 16 := Go.Rp.enters_of Try.func16 (by kernel_rfl) rfl
theorem ent17 : Go.Rp.Enters Try.prog 17 := Go.Rp.enters_of Try.func17 (by kernel_rfl) rfl
theorem ent18 : Go.Rp.Enters Try.prog 18 := Go.Rp.enters_of Try.func18 (by kernel_rfl) rfl
theorem ent19 : Go.Rp.Enters Try.prog 19 := Go.Rp.enters_of Try.func19 (by kernel_rfl) rfl
theorem ent20 : Go.Rp.Enters Try.prog 20 := Go.Rp.enters_of Try.func20 (by kernel_rfl) rfl
theorem ent21 : Go.Rp.Enters Try.prog 21 := Go.Rp.enters_of Try.func21 (by kernel_rfl) rfl
theorem ent22 : Go.Rp.Enters Try.prog 22 := Go.Rp.enters_of Try.func22 (by kernel_rfl) rfl
theorem ent23 : Go.Rp.Enters Try.prog 23 := Go.Rp.enters_of Try.func23 (by kernel_rfl) rfl
theorem ent24 : Go.Rp.Enters Try.prog 24 := Go.Rp.enters_of Try.func24 (by kernel_rfl) rfl
theorem ent25 : Go.Rp.Enters Try.prog 25 := Go.Rp.enters_of Try.func25 (by kernel_rfl) rfl
theorem ent26 : Go.Rp.Enters Try.prog 26 := Go.Rp.enters_of Try.func26 (by kernel_rfl) rfl
theorem ent27 : Go.Rp.Enters Try.prog 27 := Go.Rp.enters_of Try.func27 (by kernel_rfl) rfl
theorem ent28 : Go.Rp.Enters Try.prog 28 := Go.Rp.enters_of Try.func28 (by kernel_rfl) rfl
theorem ent29 : Go.Rp.Enters Try.prog 29 := Go.Rp.enters_of Try.func29 (by kernel_rfl) rfl
theorem ent30 : Go.Rp.Enters Try.prog 30 := Go.Rp.enters_of Try.func30 (by kernel_rfl) rfl
theorem ent31 : Go.Rp.Enters Try.prog 31 := Go.Rp.enters_of Try.func31 (by kernel_rfl) rfl
theorem ent32 : Go.Rp.Enters Try.prog 32 := Go.Rp.enters_of Try.func32 (by kernel_rfl) rfl
theorem ent33 : Go.Rp.Enters Try.prog 33 := Go.Rp.enters_of Try.func33 (by kernel_rfl) rfl
theorem ent34 : Go.Rp.Enters Try.prog 34 := Go.Rp.enters_of Try.func34 (by kernel_rfl) rfl
theorem ent35 : Go.Rp.Enters Try.prog 35 := Go.Rp.enters_of Try.func35 (by kernel_rfl) rfl
theorem ent36 : Go.Rp.Enters Try.prog 36 := Go.Rp.enters_of Try.func36 (by kernel_rfl) rfl
theorem ent37 : Go.Rp.Enters Try.prog 37 := Go.Rp.enters_of Try.func37 (by kernel_rfl) rfl
theorem ent38 : Go.Rp.Enters Try.prog 38 := Go.Rp.enters_of Try.func38 (by kernel_rfl) rfl
theorem ent39 : Go.Rp.Enters Try.prog 39 := Go.Rp.enters_of Try.func39 (by kernel_rfl) rfl
theorem ent40 : Go.Rp.Enters Try.prog 40 := Go.Rp.enters_of Try.func40 (by kernel_rfl) rfl
theorem ent41 : Go.Rp.Enters Try.prog 41 := Go.Rp.enters_of Try.func41 (by kernel_rfl) rfl
theorem ent42 : Go.Rp.Enters Try.prog 42 := Go.Rp.enters_of Try.func42 (by kernel_rfl) rfl
theorem ent43 : Go.Rp.Enters Try.prog 43 := Go.Rp.enters_of Try.func43 (by kernel_rfl) rfl
theorem ent44 : Go.Rp.Enters Try.prog 44 := Go.Rp.enters_of Try.func44 (by kernel_rfl) rfl
theorem ent45 : Go.Rp.Enters Try.prog 45 := Go.Rp.enters_of Try.func45 (by kernel_rfl) rfl
theorem ent46 : Go.Rp.Enters Try.prog 46 := Go.Rp.enters_of Try.func46 (by kernel_rfl) rfl
theorem ent47 : Go.Rp.Enters Try.prog 47 := Go.Rp.enters_of Try.func47 (by kernel_rfl) rfl
theorem ent48 : Go.Rp.Enters Try.prog 48 := Go.Rp.enters_of Try.func48 (by kernel_rfl) rfl
end Go.Proofs.Ytfdhaigfonolpaa
