/- The types of the program, as the abstract machine asks for them. -/
import Derived.Test.YtiikoldaocnilaaProg
import Derived.Test.YtiikoldaocnilaaA3
import Derived.KernelRfl
namespace Go.Proofs.Ytiikoldaocnilaa
open Go.Ab

@[simp] theorem ty2 : tyOf Try.prog 2 = some ⟨TypeDesc.int IntKind.i64, 1, 8, Value.int IntKind.i64 0⟩ := by kernel_rfl
@[simp] theorem ty3 : tyOf Try.prog 3 = some ⟨TypeDesc.int IntKind.i64, 1, 8, Value.int IntKind.i64 0⟩ := by kernel_rfl
@[simp] theorem ty4 : tyOf Try.prog 4 = some ⟨TypeDesc.bool, 1, 1, Value.bool false⟩ := by kernel_rfl
@[simp] theorem ty5 : tyOf Try.prog 5 = some ⟨TypeDesc.int IntKind.u8, 1, 1, Value.int IntKind.u8 0⟩ := by kernel_rfl
@[simp] theorem ty6 : tyOf Try.prog 6 = some ⟨TypeDesc.int IntKind.u8, 1, 1, Value.int IntKind.u8 0⟩ := by kernel_rfl
@[simp] theorem ty7 : tyOf Try.prog 7 = some ⟨TypeDesc.struct #[Field.mk "x" 2 0 false "" "runtime" 0, Field.mk "y" 3 1 false "" "runtime" 8, Field.mk "signed" 4 2 false "" "runtime" 16, Field.mk "code" 6 3 false "" "runtime" 17], 4, 24, Value.agg #[Value.int IntKind.i64 0, Value.int IntKind.i64 0, Value.bool false, Value.int IntKind.u8 0]⟩ := by kernel_rfl
@[simp] theorem ty8 : tyOf Try.prog 8 = some ⟨TypeDesc.struct #[Field.mk "x" 2 0 false "" "runtime" 0, Field.mk "y" 3 1 false "" "runtime" 8, Field.mk "signed" 4 2 false "" "runtime" 16, Field.mk "code" 6 3 false "" "runtime" 17], 4, 24, Value.agg #[Value.int IntKind.i64 0, Value.int IntKind.i64 0, Value.bool false, Value.int IntKind.u8 0]⟩ := by kernel_rfl
@[simp] theorem ty9 : tyOf Try.prog 9 = some ⟨TypeDesc.string, 1, 16, Value.string (ByteArray.mk #[])⟩ := by kernel_rfl
@[simp] theorem ty10 : tyOf Try.prog 10 = some ⟨TypeDesc.string, 1, 16, Value.string (ByteArray.mk #[])⟩ := by kernel_rfl
@[simp] theorem ty11 : tyOf Try.prog 11 = some ⟨TypeDesc.string, 1, 16, Value.string (ByteArray.mk #[])⟩ := by kernel_rfl
@[simp] theorem ty12 : tyOf Try.prog 12 = some ⟨TypeDesc.int IntKind.u64, 1, 8, Value.int IntKind.u64 0⟩ := by kernel_rfl
@[simp] theorem ty13 : tyOf Try.prog 13 = some ⟨TypeDesc.struct #[Field.mk "msg" 9 0 false "" "runtime" 0, Field.mk "addr" 12 1 false "" "runtime" 16], 2, 24, Value.agg #[Value.string (ByteArray.mk #[]), Value.int IntKind.u64 0]⟩ := by kernel_rfl
@[simp] theorem ty14 : tyOf Try.prog 14 = some ⟨TypeDesc.struct #[Field.mk "msg" 9 0 false "" "runtime" 0, Field.mk "addr" 12 1 false "" "runtime" 16], 2, 24, Value.agg #[Value.string (ByteArray.mk #[]), Value.int IntKind.u64 0]⟩ := by kernel_rfl
@[simp] theorem ty15 : tyOf Try.prog 15 = some ⟨TypeDesc.pointer 100, 1, 8, Value.pointer none⟩ := by kernel_rfl
@[simp] theorem ty16 : tyOf Try.prog 16 = some ⟨TypeDesc.pointer 103, 1, 8, Value.pointer none⟩ := by kernel_rfl
@[simp] theorem ty17 : tyOf Try.prog 17 = some ⟨TypeDesc.pointer 112, 1, 8, Value.pointer none⟩ := by kernel_rfl
@[simp] theorem ty18 : tyOf Try.prog 18 = some ⟨TypeDesc.struct #[Field.mk "typ" 17 0 false "" "internal/runtime/maps" 0], 1, 8, Value.agg #[Value.pointer none]⟩ := by kernel_rfl
@[simp] theorem ty19 : tyOf Try.prog 19 = some ⟨TypeDesc.struct #[Field.mk "typ" 17 0 false "" "internal/runtime/maps" 0], 1, 8, Value.agg #[Value.pointer none]⟩ := by kernel_rfl
@[simp] theorem ty21 : tyOf Try.prog 21 = some ⟨TypeDesc.int IntKind.i32, 1, 4, Value.int IntKind.i32 0⟩ := by kernel_rfl
@[simp] theorem ty22 : tyOf Try.prog 22 = some ⟨TypeDesc.slice 34, 1, 24, Value.slice none 0 0⟩ := by kernel_rfl
@[simp] theorem ty23 : tyOf Try.prog 23 = some ⟨TypeDesc.slice 30, 1, 24, Value.slice none 0 0⟩ := by kernel_rfl
@[simp] theorem ty24 : tyOf Try.prog 24 = some ⟨TypeDesc.slice 39, 1, 24, Value.slice none 0 0⟩ := by kernel_rfl
@[simp] theorem ty25 : tyOf Try.prog 25 = some ⟨TypeDesc.pointer 64, 1, 8, Value.pointer none⟩ := by kernel_rfl
@[simp] theorem ty26 : tyOf Try.prog 26 = some ⟨TypeDesc.int IntKind.i64, 1, 8, Value.int IntKind.i64 0⟩ := by kernel_rfl
@[simp] theorem ty30 : tyOf Try.prog 30 = some ⟨TypeDesc.slice 5, 1, 24, Value.slice none 0 0⟩ := by kernel_rfl
@[simp] theorem ty32 : tyOf Try.prog 32 = some ⟨TypeDesc.map 3 30, 1, 8, Value.map none⟩ := by kernel_rfl
@[simp] theorem ty33 : tyOf Try.prog 33 = some ⟨TypeDesc.slice 38, 1, 24, Value.slice none 0 0⟩ := by kernel_rfl
@[simp] theorem ty34 : tyOf Try.prog 34 = some ⟨TypeDesc.slice 3, 1, 24, Value.slice none 0 0⟩ := by kernel_rfl
@[simp] theorem ty37 : tyOf Try.prog 37 = some ⟨TypeDesc.struct #[Field.mk "sector" 3 0 false "" "stemma/stemlaw5" 0, Field.mk "data" 30 1 false "" "stemma/stemlaw5" 8], 2, 32, Value.agg #[Value.int IntKind.i64 0, Value.slice none 0 0]⟩ := by kernel_rfl
@[simp] theorem ty38 : tyOf Try.prog 38 = some ⟨TypeDesc.struct #[Field.mk "sector" 3 0 false "" "stemma/stemlaw5" 0, Field.mk "data" 30 1 false "" "stemma/stemlaw5" 8], 2, 32, Value.agg #[Value.int IntKind.i64 0, Value.slice none 0 0]⟩ := by kernel_rfl
@[simp] theorem ty39 : tyOf Try.prog 39 = some ⟨TypeDesc.slice 4, 1, 24, Value.slice none 0 0⟩ := by kernel_rfl
@[simp] theorem ty47 : tyOf Try.prog 47 = some ⟨TypeDesc.pointer 74, 1, 8, Value.pointer none⟩ := by kernel_rfl
@[simp] theorem ty53 : tyOf Try.prog 53 = some ⟨TypeDesc.pointer 56, 1, 8, Value.pointer none⟩ := by kernel_rfl
@[simp] theorem ty54 : tyOf Try.prog 54 = some ⟨TypeDesc.slice 84, 1, 24, Value.slice none 0 0⟩ := by kernel_rfl
@[simp] theorem ty55 : tyOf Try.prog 55 = some ⟨TypeDesc.struct #[Field.mk "Buffer" 34 0 false "" "" 0, Field.mk "Disk" 34 1 false "" "" 24, Field.mk "DiskLSN" 34 2 false "" "" 48, Field.mk "Log" 54 3 false "" "" 72, Field.mk "Flushed" 3 4 false "" "" 96, Field.mk "LastID" 3 5 false "" "" 104, Field.mk "Active" 34 6 false "" "" 112], 7, 136, Value.agg #[Value.slice none 0 0, Value.slice none 0 0, Value.slice none 0 0, Value.slice none 0 0, Value.int IntKind.i64 0, Value.int IntKind.i64 0, Value.slice none 0 0]⟩ := by kernel_rfl
@[simp] theorem ty56 : tyOf Try.prog 56 = some ⟨TypeDesc.struct #[Field.mk "Buffer" 34 0 false "" "" 0, Field.mk "Disk" 34 1 false "" "" 24, Field.mk "DiskLSN" 34 2 false "" "" 48, Field.mk "Log" 54 3 false "" "" 72, Field.mk "Flushed" 3 4 false "" "" 96, Field.mk "LastID" 3 5 false "" "" 104, Field.mk "Active" 34 6 false "" "" 112], 7, 136, Value.agg #[Value.slice none 0 0, Value.slice none 0 0, Value.slice none 0 0, Value.slice none 0 0, Value.int IntKind.i64 0, Value.int IntKind.i64 0, Value.slice none 0 0]⟩ := by kernel_rfl
@[simp] theorem ty62 : tyOf Try.prog 62 = some ⟨TypeDesc.slice 66, 1, 24, Value.slice none 0 0⟩ := by kernel_rfl
@[simp] theorem ty63 : tyOf Try.prog 63 = some ⟨TypeDesc.struct #[Field.mk "durable" 23 0 false "" "stemma/disk" 0, Field.mk "pending" 62 1 false "" "stemma/disk" 24], 2, 48, Value.agg #[Value.slice none 0 0, Value.slice none 0 0]⟩ := by kernel_rfl
@[simp] theorem ty64 : tyOf Try.prog 64 = some ⟨TypeDesc.struct #[Field.mk "durable" 23 0 false "" "stemma/disk" 0, Field.mk "pending" 62 1 false "" "stemma/disk" 24], 2, 48, Value.agg #[Value.slice none 0 0, Value.slice none 0 0]⟩ := by kernel_rfl
@[simp] theorem ty65 : tyOf Try.prog 65 = some ⟨TypeDesc.struct #[Field.mk "sector" 3 0 false "" "stemma/disk" 0, Field.mk "data" 30 1 false "" "stemma/disk" 8], 2, 32, Value.agg #[Value.int IntKind.i64 0, Value.slice none 0 0]⟩ := by kernel_rfl
@[simp] theorem ty66 : tyOf Try.prog 66 = some ⟨TypeDesc.struct #[Field.mk "sector" 3 0 false "" "stemma/disk" 0, Field.mk "data" 30 1 false "" "stemma/disk" 8], 2, 32, Value.agg #[Value.int IntKind.i64 0, Value.slice none 0 0]⟩ := by kernel_rfl
@[simp] theorem ty67 : tyOf Try.prog 67 = some ⟨TypeDesc.int IntKind.u64, 1, 8, Value.int IntKind.u64 0⟩ := by kernel_rfl
@[simp] theorem ty71 : tyOf Try.prog 71 = some ⟨TypeDesc.slice 78, 1, 24, Value.slice none 0 0⟩ := by kernel_rfl
@[simp] theorem ty72 : tyOf Try.prog 72 = some ⟨TypeDesc.slice 80, 1, 24, Value.slice none 0 0⟩ := by kernel_rfl
@[simp] theorem ty73 : tyOf Try.prog 73 = some ⟨TypeDesc.struct #[Field.mk "buffer" 71 0 false "" "stemma/recovery" 0, Field.mk "disk" 71 1 false "" "stemma/recovery" 24, Field.mk "log" 72 2 false "" "stemma/recovery" 48, Field.mk "flushed" 3 3 false "" "stemma/recovery" 72, Field.mk "lastID" 3 4 false "" "stemma/recovery" 80, Field.mk "active" 34 5 false "" "stemma/recovery" 88, Field.mk "writer" 34 6 false "" "stemma/recovery" 112], 7, 136, Value.agg #[Value.slice none 0 0, Value.slice none 0 0, Value.slice none 0 0, Value.int IntKind.i64 0, Value.int IntKind.i64 0, Value.slice none 0 0, Value.slice none 0 0]⟩ := by kernel_rfl
@[simp] theorem ty74 : tyOf Try.prog 74 = some ⟨TypeDesc.struct #[Field.mk "buffer" 71 0 false "" "stemma/recovery" 0, Field.mk "disk" 71 1 false "" "stemma/recovery" 24, Field.mk "log" 72 2 false "" "stemma/recovery" 48, Field.mk "flushed" 3 3 false "" "stemma/recovery" 72, Field.mk "lastID" 3 4 false "" "stemma/recovery" 80, Field.mk "active" 34 5 false "" "stemma/recovery" 88, Field.mk "writer" 34 6 false "" "stemma/recovery" 112], 7, 136, Value.agg #[Value.slice none 0 0, Value.slice none 0 0, Value.slice none 0 0, Value.int IntKind.i64 0, Value.int IntKind.i64 0, Value.slice none 0 0, Value.slice none 0 0]⟩ := by kernel_rfl
@[simp] theorem ty77 : tyOf Try.prog 77 = some ⟨TypeDesc.struct #[Field.mk "value" 3 0 false "" "stemma/recovery" 0, Field.mk "lsn" 3 1 false "" "stemma/recovery" 8], 2, 16, Value.agg #[Value.int IntKind.i64 0, Value.int IntKind.i64 0]⟩ := by kernel_rfl
@[simp] theorem ty78 : tyOf Try.prog 78 = some ⟨TypeDesc.struct #[Field.mk "value" 3 0 false "" "stemma/recovery" 0, Field.mk "lsn" 3 1 false "" "stemma/recovery" 8], 2, 16, Value.agg #[Value.int IntKind.i64 0, Value.int IntKind.i64 0]⟩ := by kernel_rfl
@[simp] theorem ty79 : tyOf Try.prog 79 = some ⟨TypeDesc.struct #[Field.mk "kind" 3 0 false "" "stemma/recovery" 0, Field.mk "tx" 3 1 false "" "stemma/recovery" 8, Field.mk "page" 3 2 false "" "stemma/recovery" 16, Field.mk "before" 3 3 false "" "stemma/recovery" 24, Field.mk "after" 3 4 false "" "stemma/recovery" 32], 5, 40, Value.agg #[Value.int IntKind.i64 0, Value.int IntKind.i64 0, Value.int IntKind.i64 0, Value.int IntKind.i64 0, Value.int IntKind.i64 0]⟩ := by kernel_rfl
@[simp] theorem ty80 : tyOf Try.prog 80 = some ⟨TypeDesc.struct #[Field.mk "kind" 3 0 false "" "stemma/recovery" 0, Field.mk "tx" 3 1 false "" "stemma/recovery" 8, Field.mk "page" 3 2 false "" "stemma/recovery" 16, Field.mk "before" 3 3 false "" "stemma/recovery" 24, Field.mk "after" 3 4 false "" "stemma/recovery" 32], 5, 40, Value.agg #[Value.int IntKind.i64 0, Value.int IntKind.i64 0, Value.int IntKind.i64 0, Value.int IntKind.i64 0, Value.int IntKind.i64 0]⟩ := by kernel_rfl
@[simp] theorem ty83 : tyOf Try.prog 83 = some ⟨TypeDesc.struct #[Field.mk "Kind" 3 0 false "" "" 0, Field.mk "Tx" 3 1 false "" "" 8, Field.mk "Page" 3 2 false "" "" 16, Field.mk "Before" 3 3 false "" "" 24, Field.mk "After" 3 4 false "" "" 32], 5, 40, Value.agg #[Value.int IntKind.i64 0, Value.int IntKind.i64 0, Value.int IntKind.i64 0, Value.int IntKind.i64 0, Value.int IntKind.i64 0]⟩ := by kernel_rfl
@[simp] theorem ty84 : tyOf Try.prog 84 = some ⟨TypeDesc.struct #[Field.mk "Kind" 3 0 false "" "" 0, Field.mk "Tx" 3 1 false "" "" 8, Field.mk "Page" 3 2 false "" "" 16, Field.mk "Before" 3 3 false "" "" 24, Field.mk "After" 3 4 false "" "" 32], 5, 40, Value.agg #[Value.int IntKind.i64 0, Value.int IntKind.i64 0, Value.int IntKind.i64 0, Value.int IntKind.i64 0, Value.int IntKind.i64 0]⟩ := by kernel_rfl
@[simp] theorem ty93 : tyOf Try.prog 93 = some ⟨TypeDesc.map 3 4, 1, 8, Value.map none⟩ := by kernel_rfl
@[simp] theorem ty99 : tyOf Try.prog 99 = some ⟨TypeDesc.struct #[Field.mk "_interface" 17 0 false "" "runtime" 0, Field.mk "concrete" 17 1 false "" "runtime" 8, Field.mk "asserted" 17 2 false "" "runtime" 16, Field.mk "missingMethod" 9 3 false "" "runtime" 24], 4, 40, Value.agg #[Value.pointer none, Value.pointer none, Value.pointer none, Value.string (ByteArray.mk #[])]⟩ := by kernel_rfl
@[simp] theorem ty100 : tyOf Try.prog 100 = some ⟨TypeDesc.struct #[Field.mk "_interface" 17 0 false "" "runtime" 0, Field.mk "concrete" 17 1 false "" "runtime" 8, Field.mk "asserted" 17 2 false "" "runtime" 16, Field.mk "missingMethod" 9 3 false "" "runtime" 24], 4, 40, Value.agg #[Value.pointer none, Value.pointer none, Value.pointer none, Value.string (ByteArray.mk #[])]⟩ := by kernel_rfl
@[simp] theorem ty101 : tyOf Try.prog 101 = some ⟨TypeDesc.array 0 16, 0, 0, Value.agg #[]⟩ := by kernel_rfl
@[simp] theorem ty102 : tyOf Try.prog 102 = some ⟨TypeDesc.struct #[Field.mk "_" 101 0 false "" "runtime" 0], 0, 0, Value.agg #[]⟩ := by kernel_rfl
@[simp] theorem ty103 : tyOf Try.prog 103 = some ⟨TypeDesc.struct #[Field.mk "_" 101 0 false "" "runtime" 0], 0, 0, Value.agg #[]⟩ := by kernel_rfl
@[simp] theorem ty104 : tyOf Try.prog 104 = some ⟨TypeDesc.int IntKind.u32, 1, 4, Value.int IntKind.u32 0⟩ := by kernel_rfl
@[simp] theorem ty105 : tyOf Try.prog 105 = some ⟨TypeDesc.int IntKind.u8, 1, 1, Value.int IntKind.u8 0⟩ := by kernel_rfl
@[simp] theorem ty106 : tyOf Try.prog 106 = some ⟨TypeDesc.int IntKind.u8, 1, 1, Value.int IntKind.u8 0⟩ := by kernel_rfl
@[simp] theorem ty108 : tyOf Try.prog 108 = some ⟨TypeDesc.pointer 5, 1, 8, Value.pointer none⟩ := by kernel_rfl
@[simp] theorem ty109 : tyOf Try.prog 109 = some ⟨TypeDesc.int IntKind.i32, 1, 4, Value.int IntKind.i32 0⟩ := by kernel_rfl
@[simp] theorem ty110 : tyOf Try.prog 110 = some ⟨TypeDesc.int IntKind.i32, 1, 4, Value.int IntKind.i32 0⟩ := by kernel_rfl
@[simp] theorem ty111 : tyOf Try.prog 111 = some ⟨TypeDesc.struct #[Field.mk "Size_" 12 0 false "" "" 0, Field.mk "PtrBytes" 12 1 false "" "" 8, Field.mk "Hash" 104 2 false "" "" 16, Field.mk "TFlag" 105 3 false "" "" 20, Field.mk "Align_" 5 4 false "" "" 21, Field.mk "FieldAlign_" 5 5 false "" "" 22, Field.mk "Kind_" 106 6 false "" "" 23, Field.mk "Equal" 107 7 false "" "" 24, Field.mk "GCData" 108 8 false "" "" 32, Field.mk "Str" 109 9 false "" "" 40, Field.mk "PtrToThis" 110 10 false "" "" 44], 11, 48, Value.agg #[Value.int IntKind.u64 0, Value.int IntKind.u64 0, Value.int IntKind.u32 0, Value.int IntKind.u8 0, Value.int IntKind.u8 0, Value.int IntKind.u8 0, Value.int IntKind.u8 0, Value.nilFunc, Value.pointer none, Value.int IntKind.i32 0, Value.int IntKind.i32 0]⟩ := by kernel_rfl
@[simp] theorem ty112 : tyOf Try.prog 112 = some ⟨TypeDesc.struct #[Field.mk "Size_" 12 0 false "" "" 0, Field.mk "PtrBytes" 12 1 false "" "" 8, Field.mk "Hash" 104 2 false "" "" 16, Field.mk "TFlag" 105 3 false "" "" 20, Field.mk "Align_" 5 4 false "" "" 21, Field.mk "FieldAlign_" 5 5 false "" "" 22, Field.mk "Kind_" 106 6 false "" "" 23, Field.mk "Equal" 107 7 false "" "" 24, Field.mk "GCData" 108 8 false "" "" 32, Field.mk "Str" 109 9 false "" "" 40, Field.mk "PtrToThis" 110 10 false "" "" 44], 11, 48, Value.agg #[Value.int IntKind.u64 0, Value.int IntKind.u64 0, Value.int IntKind.u32 0, Value.int IntKind.u8 0, Value.int IntKind.u8 0, Value.int IntKind.u8 0, Value.int IntKind.u8 0, Value.nilFunc, Value.pointer none, Value.int IntKind.i32 0, Value.int IntKind.i32 0]⟩ := by kernel_rfl
theorem ent2 : Go.Rp.Enters Try.prog 2 := Go.Rp.enters_of Try.func2 (by kernel_rfl) rfl
theorem ent3 : Go.Rp.Enters Try.prog 3 := Go.Rp.enters_of Try.func3 (by kernel_rfl) rfl
theorem ent4 : Go.Rp.Enters Try.prog 4 := Go.Rp.enters_of Try.func4 (by kernel_rfl) rfl
theorem ent5 : Go.Rp.Enters Try.prog 5 := Go.Rp.enters_of Try.func5 (by kernel_rfl) rfl
theorem ent6 : Go.Rp.Enters Try.prog 6 := Go.Rp.enters_of Try.func6 (by kernel_rfl) rfl
theorem ent7 : Go.Rp.Enters Try.prog 7 := Go.Rp.enters_of Try.func7 (by kernel_rfl) rfl
theorem ent8 : Go.Rp.Enters Try.prog 8 := Go.Rp.enters_of Try.func8 (by kernel_rfl) rfl
theorem ent9 : Go.Rp.Enters Try.prog 9 := Go.Rp.enters_of Try.func9 (by kernel_rfl) rfl
theorem ent10 : Go.Rp.Enters Try.prog 10 := Go.Rp.enters_of Try.func10 (by kernel_rfl) rfl
theorem ent11 : Go.Rp.Enters Try.prog 11 := Go.Rp.enters_of Try.func11 (by kernel_rfl) rfl
theorem ent12 : Go.Rp.Enters Try.prog 12 := Go.Rp.enters_of Try.func12 (by kernel_rfl) rfl
theorem ent13 : Go.Rp.Enters Try.prog 13 := Go.Rp.enters_of Try.func13 (by kernel_rfl) rfl
theorem ent14 : Go.Rp.Enters Try.prog 14 := Go.Rp.enters_of Try.func14 (by kernel_rfl) rfl
theorem ent15 : Go.Rp.Enters Try.prog 15 := Go.Rp.enters_of Try.func15 (by kernel_rfl) rfl
theorem ent16 : Go.Rp.Enters Try.prog 16 := Go.Rp.enters_of Try.func16 (by kernel_rfl) rfl
theorem ent17 : Go.Rp.Enters Try.prog 17 := Go.Rp.enters_of Try.func17 (by kernel_rfl) rfl
theorem ent18 : Go.Rp.Enters Try.prog 18 := Go.Rp.enters_of Try.func18 (by kernel_rfl) rfl
theorem ent19 : Go.Rp.Enters Try.prog 19 := Go.Rp.enters_of Try.func19 (by kernel_rfl) rfl
theorem ent20 : Go.Rp.Enters Try.prog 20 := Go.Rp.enters_of Try.func20 (by kernel_rfl) rfl
theorem ent21 : Go.Rp.Enters Try.prog 21 := Go.Rp.enters_of Try.func21 (by kernel_rfl) rfl
theorem ent22 : Go.Rp.Enters Try.prog 22 := Go.Rp.enters_of Try.func22 (by kernel_rfl) rfl
theorem ent23 : Go.Rp.Enters Try.prog 23 := Go.Rp.enters_of Try.func23 (by kernel_rfl) rfl
theorem ent24 : Go.Rp.Enters Try.prog 24 := Go.Rp.enters_of Try.func24 (by kernel_rfl) rfl
theorem ent25 : Go.Rp.Enters Try.prog 25 := Go.Rp.enters_of Try.func25 (by kernel_rfl) rfl
theorem ent26 : Go.Rp.Enters Try.prog 26 := Go.Rp.enters_of Try.func26 (by kernel_rfl) rfl
theorem ent27 : Go.Rp.Enters Try.prog 27 := Go.Rp.enters_of Try.func27 (by kernel_rfl) rfl
theorem ent28 : Go.Rp.Enters Try.prog 28 := Go.Rp.enters_of Try.func28 (by kernel_rfl) rfl
theorem ent29 : Go.Rp.Enters Try.prog 29 := Go.Rp.enters_of Try.func29 (by kernel_rfl) rfl
theorem ent30 : Go.Rp.Enters Try.prog 30 := Go.Rp.enters_of Try.func30 (by kernel_rfl) rfl
theorem ent31 : Go.Rp.Enters Try.prog 31 := Go.Rp.enters_of Try.func31 (by kernel_rfl) rfl
theorem ent32 : Go.Rp.Enters Try.prog 32 := Go.Rp.enters_of Try.func32 (by kernel_rfl) rfl
theorem ent33 : Go.Rp.Enters Try.prog 33 := Go.Rp.enters_of Try.func33 (by kernel_rfl) rfl
theorem ent34 : Go.Rp.Enters Try.prog 34 := Go.Rp.enters_of Try.func34 (by kernel_rfl) rfl
theorem ent35 : Go.Rp.Enters Try.prog 35 := Go.Rp.enters_of Try.func35 (by kernel_rfl) rfl
theorem ent36 : Go.Rp.Enters Try.prog 36 := Go.Rp.enters_of Try.func36 (by kernel_rfl) rfl
theorem ent37 : Go.Rp.Enters Try.prog 37 := Go.Rp.enters_of Try.func37 (by kernel_rfl) rfl
theorem ent38 : Go.Rp.Enters Try.prog 38 := Go.Rp.enters_of Try.func38 (by kernel_rfl) rfl
theorem ent39 : Go.Rp.Enters Try.prog 39 := Go.Rp.enters_of Try.func39 (by kernel_rfl) rfl
theorem ent40 : Go.Rp.Enters Try.prog 40 := Go.Rp.enters_of Try.func40 (by kernel_rfl) rfl
theorem ent41 : Go.Rp.Enters Try.prog 41 := Go.Rp.enters_of Try.func41 (by kernel_rfl) rfl
theorem ent42 : Go.Rp.Enters Try.prog 42 := Go.Rp.enters_of Try.func42 (by kernel_rfl) rfl
theorem ent43 : Go.Rp.Enters Try.prog 43 := Go.Rp.enters_of Try.func43 (by kernel_rfl) rfl
theorem ent44 : Go.Rp.Enters Try.prog 44 := Go.Rp.enters_of Try.func44 (by kernel_rfl) rfl
theorem ent45 : Go.Rp.Enters Try.prog 45 := Go.Rp.enters_of Try.func45 (by kernel_rfl) rfl
theorem ent46 : Go.Rp.Enters Try.prog 46 := Go.Rp.enters_of Try.func46 (by kernel_rfl) rfl
theorem ent47 : Go.Rp.Enters Try.prog 47 := Go.Rp.enters_of Try.func47 (by kernel_rfl) rfl
theorem ent48 : Go.Rp.Enters Try.prog 48 := Go.Rp.enters_of Try.func48 (by kernel_rfl) rfl
end Go.Proofs.Ytiikoldaocnilaa
