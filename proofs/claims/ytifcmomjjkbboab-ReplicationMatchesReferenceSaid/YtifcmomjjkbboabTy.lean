/- The types of the program, as the abstract machine asks for them. -/
import Derived.Test.YtifcmomjjkbboabProg
import Derived.Test.YtifcmomjjkbboabA3
import Derived.KernelRfl
namespace Go.Proofs.Ytifcmomjjkbboab
open Go.Ab

@[simp] theorem ty2 : tyOf Try.prog 2 = some ⟨TypeDesc.int IntKind.i64, 1, 8, Value.int IntKind.i64 0⟩ := by kernel_rfl
@[simp] theorem ty3 : tyOf Try.prog 3 = some ⟨TypeDesc.int IntKind.i64, 1, 8, Value.int IntKind.i64 0⟩ := by kernel_rfl
@[simp] theorem ty4 : tyOf Try.prog 4 = some ⟨TypeDesc.bool, 1, 1, Value.bool false⟩ := by kernel_rfl
@[simp] theorem ty5 : tyOf Try.prog 5 = some ⟨TypeDesc.int IntKind.u8, 1, 1, Value.int IntKind.u8 0⟩ := by kernel_rfl
@[simp] theorem ty6 : tyOf Try.prog 6 = some ⟨TypeDesc.int IntKind.u8, 1, 1, Value.int IntKind.u8 0⟩ := by kernel_rfl
@[simp] theorem ty7 : tyOf Try.prog 7 = some ⟨TypeDesc.struct #[Field.mk "x" 2 0 false "" "runtime" 0, Field.mk "y" 3 1 false "" "runtime" 8, Field.mk "signed" 4 2 false "" "runtime" 16, Field.mk "code" 6 3 false "" "runtime" 17], 4, 24, Value.agg #[Value.int IntKind.i64 0, Value.int IntKind.i64 0, Value.bool false, Value.int IntKind.u8 0]⟩ := by kernel_rfl
@[simp] theorem ty8 : tyOf Try.prog 8 = some ⟨TypeDesc.struct #[Field.mk "x" 2 0 false "" "runtime" 0, Field.mk "y" 3 1 false "" "runtime" 8, Field.mk "signed" 4 2 false "" "runtime" 16, Field.mk "code" 6 3 false "" "runtime" 17], 4, 24, Value.agg #[Value.int IntKind.i64 0, Value.int IntKind.i64 0, Value.bool false, Value.int IntKind.u8 0]⟩ := by kernel_rfl
@[simp] theorem ty9 : tyOf Try.prog 9 = some ⟨TypeDesc.string, 1, 16, Value.string (ByteArray.mk #[])⟩ := by kernel_rfl
@[simp] theorem ty10 : tyOf Try.prog 10 = some ⟨TypeDesc.string, 1, 16, Value.string (ByteArray.mk #[])⟩ := by kernel_rfl
@[simp] theorem ty11 : tyOf Try.prog 11 = some ⟨TypeDesc.string, 1, 16, Value.string (ByteArray.mk #[])⟩ := by kernel_rfl
@[simp] theorem ty12 : tyOf Try.prog 12 = some ⟨TypeDesc.int IntKind.u64, 1, 8, Value.int IntKind.u64 0⟩ := by kernel_rfl
@[simp] theorem ty13 : tyOf Try.prog 13 = some ⟨TypeDesc.struct #[Field.mk "msg" 9 0 false "" "runtime" 0, Field.mk "addr" 12 1 false "" "runtime" 16], 2, 24, Value.agg #[Value.string (ByteArray.mk #[]), Value.int IntKind.u64 0]⟩ := by kernel_rfl
@[simp] theorem ty14 : tyOf Try.prog 14 = some ⟨TypeDesc.struct #[Field.mk "msg" 9 0 false "" "runtime" 0, Field.mk "addr" 12 1 false "" "runtime" 16], 2, 24, Value.agg #[Value.string (ByteArray.mk #[]), Value.int IntKind.u64 0]⟩ := by kernel_rfl
@[simp] theorem ty15 : tyOf Try.prog 15 = some ⟨TypeDesc.pointer 120, 1, 8, Value.pointer none⟩ := by kernel_rfl
@[simp] theorem ty16 : tyOf Try.prog 16 = some ⟨TypeDesc.pointer 123, 1, 8, Value.pointer none⟩ := by kernel_rfl
@[simp] theorem ty17 : tyOf Try.prog 17 = some ⟨TypeDesc.pointer 132, 1, 8, Value.pointer none⟩ := by kernel_rfl
@[simp] theorem ty18 : tyOf Try.prog 18 = some ⟨TypeDesc.struct #[Field.mk "typ" 17 0 false "" "internal/runtime/maps" 0], 1, 8, Value.agg #[Value.pointer none]⟩ := by kernel_rfl
@[simp] theorem ty19 : tyOf Try.prog 19 = some ⟨TypeDesc.struct #[Field.mk "typ" 17 0 false "" "internal/runtime/maps" 0], 1, 8, Value.agg #[Value.pointer none]⟩ := by kernel_rfl
@[simp] theorem ty21 : tyOf Try.prog 21 = some ⟨TypeDesc.int IntKind.i32, 1, 4, Value.int IntKind.i32 0⟩ := by kernel_rfl
@[simp] theorem ty22 : tyOf Try.prog 22 = some ⟨TypeDesc.slice 34, 1, 24, Value.slice none 0 0⟩ := by kernel_rfl
@[simp] theorem ty23 : tyOf Try.prog 23 = some ⟨TypeDesc.slice 9, 1, 24, Value.slice none 0 0⟩ := by kernel_rfl
@[simp] theorem ty24 : tyOf Try.prog 24 = some ⟨TypeDesc.pointer 59, 1, 8, Value.pointer none⟩ := by kernel_rfl
@[simp] theorem ty25 : tyOf Try.prog 25 = some ⟨TypeDesc.int IntKind.i64, 1, 8, Value.int IntKind.i64 0⟩ := by kernel_rfl
@[simp] theorem ty29 : tyOf Try.prog 29 = some ⟨TypeDesc.slice 64, 1, 24, Value.slice none 0 0⟩ := by kernel_rfl
@[simp] theorem ty32 : tyOf Try.prog 32 = some ⟨TypeDesc.pointer 44, 1, 8, Value.pointer none⟩ := by kernel_rfl
@[simp] theorem ty34 : tyOf Try.prog 34 = some ⟨TypeDesc.slice 3, 1, 24, Value.slice none 0 0⟩ := by kernel_rfl
@[simp] theorem ty41 : tyOf Try.prog 41 = some ⟨TypeDesc.slice 68, 1, 24, Value.slice none 0 0⟩ := by kernel_rfl
@[simp] theorem ty42 : tyOf Try.prog 42 = some ⟨TypeDesc.slice 47, 1, 24, Value.slice none 0 0⟩ := by kernel_rfl
@[simp] theorem ty43 : tyOf Try.prog 43 = some ⟨TypeDesc.struct #[Field.mk "Servers" 41 0 false "" "" 0, Field.mk "Leaders" 34 1 false "" "" 24, Field.mk "Network" 42 2 false "" "" 48], 3, 72, Value.agg #[Value.slice none 0 0, Value.slice none 0 0, Value.slice none 0 0]⟩ := by kernel_rfl
@[simp] theorem ty44 : tyOf Try.prog 44 = some ⟨TypeDesc.struct #[Field.mk "Servers" 41 0 false "" "" 0, Field.mk "Leaders" 34 1 false "" "" 24, Field.mk "Network" 42 2 false "" "" 48], 3, 72, Value.agg #[Value.slice none 0 0, Value.slice none 0 0, Value.slice none 0 0]⟩ := by kernel_rfl
@[simp] theorem ty45 : tyOf Try.prog 45 = some ⟨TypeDesc.slice 71, 1, 24, Value.slice none 0 0⟩ := by kernel_rfl
@[simp] theorem ty46 : tyOf Try.prog 46 = some ⟨TypeDesc.struct #[Field.mk "Kind" 3 0 false "" "" 0, Field.mk "From" 3 1 false "" "" 8, Field.mk "To" 3 2 false "" "" 16, Field.mk "Term" 3 3 false "" "" 24, Field.mk "Index" 3 4 false "" "" 32, Field.mk "PrevTerm" 3 5 false "" "" 40, Field.mk "Commit" 3 6 false "" "" 48, Field.mk "Entries" 45 7 false "" "" 56], 8, 80, Value.agg #[Value.int IntKind.i64 0, Value.int IntKind.i64 0, Value.int IntKind.i64 0, Value.int IntKind.i64 0, Value.int IntKind.i64 0, Value.int IntKind.i64 0, Value.int IntKind.i64 0, Value.slice none 0 0]⟩ := by kernel_rfl
@[simp] theorem ty47 : tyOf Try.prog 47 = some ⟨TypeDesc.struct #[Field.mk "Kind" 3 0 false "" "" 0, Field.mk "From" 3 1 false "" "" 8, Field.mk "To" 3 2 false "" "" 16, Field.mk "Term" 3 3 false "" "" 24, Field.mk "Index" 3 4 false "" "" 32, Field.mk "PrevTerm" 3 5 false "" "" 40, Field.mk "Commit" 3 6 false "" "" 48, Field.mk "Entries" 45 7 false "" "" 56], 8, 80, Value.agg #[Value.int IntKind.i64 0, Value.int IntKind.i64 0, Value.int IntKind.i64 0, Value.int IntKind.i64 0, Value.int IntKind.i64 0, Value.int IntKind.i64 0, Value.int IntKind.i64 0, Value.slice none 0 0]⟩ := by kernel_rfl
@[simp] theorem ty56 : tyOf Try.prog 56 = some ⟨TypeDesc.slice 61, 1, 24, Value.slice none 0 0⟩ := by kernel_rfl
@[simp] theorem ty57 : tyOf Try.prog 57 = some ⟨TypeDesc.slice 73, 1, 24, Value.slice none 0 0⟩ := by kernel_rfl
@[simp] theorem ty58 : tyOf Try.prog 58 = some ⟨TypeDesc.struct #[Field.mk "servers" 56 0 false "" "stemma/replication" 0, Field.mk "leaders" 34 1 false "" "stemma/replication" 24, Field.mk "network" 57 2 false "" "stemma/replication" 48], 3, 72, Value.agg #[Value.slice none 0 0, Value.slice none 0 0, Value.slice none 0 0]⟩ := by kernel_rfl
@[simp] theorem ty59 : tyOf Try.prog 59 = some ⟨TypeDesc.struct #[Field.mk "servers" 56 0 false "" "stemma/replication" 0, Field.mk "leaders" 34 1 false "" "stemma/replication" 24, Field.mk "network" 57 2 false "" "stemma/replication" 48], 3, 72, Value.agg #[Value.slice none 0 0, Value.slice none 0 0, Value.slice none 0 0]⟩ := by kernel_rfl
@[simp] theorem ty60 : tyOf Try.prog 60 = some ⟨TypeDesc.struct #[Field.mk "term" 3 0 false "" "stemma/replication" 0, Field.mk "commit" 3 1 false "" "stemma/replication" 8, Field.mk "log" 29 2 false "" "stemma/replication" 16, Field.mk "match" 34 3 false "" "stemma/replication" 40], 4, 64, Value.agg #[Value.int IntKind.i64 0, Value.int IntKind.i64 0, Value.slice none 0 0, Value.slice none 0 0]⟩ := by kernel_rfl
@[simp] theorem ty61 : tyOf Try.prog 61 = some ⟨TypeDesc.struct #[Field.mk "term" 3 0 false "" "stemma/replication" 0, Field.mk "commit" 3 1 false "" "stemma/replication" 8, Field.mk "log" 29 2 false "" "stemma/replication" 16, Field.mk "match" 34 3 false "" "stemma/replication" 40], 4, 64, Value.agg #[Value.int IntKind.i64 0, Value.int IntKind.i64 0, Value.slice none 0 0, Value.slice none 0 0]⟩ := by kernel_rfl
@[simp] theorem ty62 : tyOf Try.prog 62 = some ⟨TypeDesc.pointer 61, 1, 8, Value.pointer none⟩ := by kernel_rfl
@[simp] theorem ty63 : tyOf Try.prog 63 = some ⟨TypeDesc.struct #[Field.mk "Term" 3 0 false "" "" 0, Field.mk "Payload" 9 1 false "" "" 8], 2, 24, Value.agg #[Value.int IntKind.i64 0, Value.string (ByteArray.mk #[])]⟩ := by kernel_rfl
@[simp] theorem ty64 : tyOf Try.prog 64 = some ⟨TypeDesc.struct #[Field.mk "Term" 3 0 false "" "" 0, Field.mk "Payload" 9 1 false "" "" 8], 2, 24, Value.agg #[Value.int IntKind.i64 0, Value.string (ByteArray.mk #[])]⟩ := by kernel_rfl
@[simp] theorem ty67 : tyOf Try.prog 67 = some ⟨TypeDesc.struct #[Field.mk "Term" 3 0 false "" "" 0, Field.mk "Commit" 3 1 false "" "" 8, Field.mk "Log" 45 2 false "" "" 16, Field.mk "Match" 34 3 false "" "" 40], 4, 64, Value.agg #[Value.int IntKind.i64 0, Value.int IntKind.i64 0, Value.slice none 0 0, Value.slice none 0 0]⟩ := by kernel_rfl
@[simp] theorem ty68 : tyOf Try.prog 68 = some ⟨TypeDesc.struct #[Field.mk "Term" 3 0 false "" "" 0, Field.mk "Commit" 3 1 false "" "" 8, Field.mk "Log" 45 2 false "" "" 16, Field.mk "Match" 34 3 false "" "" 40], 4, 64, Value.agg #[Value.int IntKind.i64 0, Value.int IntKind.i64 0, Value.slice none 0 0, Value.slice none 0 0]⟩ := by kernel_rfl
@[simp] theorem ty69 : tyOf Try.prog 69 = some ⟨TypeDesc.int IntKind.u64, 1, 8, Value.int IntKind.u64 0⟩ := by kernel_rfl
@[simp] theorem ty70 : tyOf Try.prog 70 = some ⟨TypeDesc.pointer 68, 1, 8, Value.pointer none⟩ := by kernel_rfl
@[simp] theorem ty71 : tyOf Try.prog 71 = some ⟨TypeDesc.struct #[Field.mk "Term" 3 0 false "" "" 0, Field.mk "Payload" 9 1 false "" "" 8], 2, 24, Value.agg #[Value.int IntKind.i64 0, Value.string (ByteArray.mk #[])]⟩ := by kernel_rfl
@[simp] theorem ty72 : tyOf Try.prog 72 = some ⟨TypeDesc.struct #[Field.mk "Kind" 3 0 false "" "" 0, Field.mk "From" 3 1 false "" "" 8, Field.mk "To" 3 2 false "" "" 16, Field.mk "Term" 3 3 false "" "" 24, Field.mk "Index" 3 4 false "" "" 32, Field.mk "PrevTerm" 3 5 false "" "" 40, Field.mk "Commit" 3 6 false "" "" 48, Field.mk "Entries" 29 7 false "" "" 56], 8, 80, Value.agg #[Value.int IntKind.i64 0, Value.int IntKind.i64 0, Value.int IntKind.i64 0, Value.int IntKind.i64 0, Value.int IntKind.i64 0, Value.int IntKind.i64 0, Value.int IntKind.i64 0, Value.slice none 0 0]⟩ := by kernel_rfl
@[simp] theorem ty73 : tyOf Try.prog 73 = some ⟨TypeDesc.struct #[Field.mk "Kind" 3 0 false "" "" 0, Field.mk "From" 3 1 false "" "" 8, Field.mk "To" 3 2 false "" "" 16, Field.mk "Term" 3 3 false "" "" 24, Field.mk "Index" 3 4 false "" "" 32, Field.mk "PrevTerm" 3 5 false "" "" 40, Field.mk "Commit" 3 6 false "" "" 48, Field.mk "Entries" 29 7 false "" "" 56], 8, 80, Value.agg #[Value.int IntKind.i64 0, Value.int IntKind.i64 0, Value.int IntKind.i64 0, Value.int IntKind.i64 0, Value.int IntKind.i64 0, Value.int IntKind.i64 0, Value.int IntKind.i64 0, Value.slice none 0 0]⟩ := by kernel_rfl
@[simp] theorem ty77 : tyOf Try.prog 77 = some ⟨TypeDesc.slice 42, 1, 24, Value.slice none 0 0⟩ := by kernel_rfl
@[simp] theorem ty81 : tyOf Try.prog 81 = some ⟨TypeDesc.map 3 4, 1, 8, Value.map none⟩ := by kernel_rfl
@[simp] theorem ty98 : tyOf Try.prog 98 = some ⟨TypeDesc.int IntKind.i64, 1, 8, Value.int IntKind.i64 0⟩ := by kernel_rfl
@[simp] theorem ty107 : tyOf Try.prog 107 = some ⟨TypeDesc.int IntKind.u32, 1, 4, Value.int IntKind.u32 0⟩ := by kernel_rfl
@[simp] theorem ty109 : tyOf Try.prog 109 = some ⟨TypeDesc.int IntKind.u64, 1, 8, Value.int IntKind.u64 0⟩ := by kernel_rfl
@[simp] theorem ty110 : tyOf Try.prog 110 = some ⟨TypeDesc.int IntKind.u64, 1, 8, Value.int IntKind.u64 0⟩ := by kernel_rfl
@[simp] theorem ty114 : tyOf Try.prog 114 = some ⟨TypeDesc.pointer 3, 1, 8, Value.pointer none⟩ := by kernel_rfl
@[simp] theorem ty116 : tyOf Try.prog 116 = some ⟨TypeDesc.pointer 110, 1, 8, Value.pointer none⟩ := by kernel_rfl
@[simp] theorem ty119 : tyOf Try.prog 119 = some ⟨TypeDesc.struct #[Field.mk "_interface" 17 0 false "" "runtime" 0, Field.mk "concrete" 17 1 false "" "runtime" 8, Field.mk "asserted" 17 2 false "" "runtime" 16, Field.mk "missingMethod" 9 3 false "" "runtime" 24], 4, 40, Value.agg #[Value.pointer none, Value.pointer none, Value.pointer none, Value.string (ByteArray.mk #[])]⟩ := by kernel_rfl
@[simp] theorem ty120 : tyOf Try.prog 120 = some ⟨TypeDesc.struct #[Field.mk "_interface" 17 0 false "" "runtime" 0, Field.mk "concrete" 17 1 false "" "runtime" 8, Field.mk "asserted" 17 2 false "" "runtime" 16, Field.mk "missingMethod" 9 3 false "" "runtime" 24], 4, 40, Value.agg #[Value.pointer none, Value.pointer none, Value.pointer none, Value.string (ByteArray.mk #[])]⟩ := by kernel_rfl
@[simp] theorem ty121 : tyOf Try.prog 121 = some ⟨TypeDesc.array 0 16, 0, 0, Value.agg #[]⟩ := by kernel_rfl
@[simp] theorem ty122 : tyOf Try.prog 122 = some ⟨TypeDesc.struct #[Field.mk "_" 121 0 false "" "runtime" 0], 0, 0, Value.agg #[]⟩ := by kernel_rfl
@[simp] theorem ty123 : tyOf Try.prog 123 = some ⟨TypeDesc.struct #[Field.mk "_" 121 0 false "" "runtime" 0], 0, 0, Value.agg #[]⟩ := by kernel_rfl
@[simp] theorem ty125 : tyOf Try.prog 125 = some ⟨TypeDesc.int IntKind.u8, 1, 1, Value.int IntKind.u8 0⟩ := by kernel_rfl
@[simp] theorem ty126 : tyOf Try.prog 126 = some ⟨TypeDesc.int IntKind.u8, 1, 1, Value.int IntKind.u8 0⟩ := by kernel_rfl
@[simp] theorem ty128 : tyOf Try.prog 128 = some ⟨TypeDesc.pointer 5, 1, 8, Value.pointer none⟩ := by kernel_rfl
@[simp] theorem ty129 : tyOf Try.prog 129 = some ⟨TypeDesc.int IntKind.i32, 1, 4, Value.int IntKind.i32 0⟩ := by kernel_rfl
@[simp] theorem ty130 : tyOf Try.prog 130 = some ⟨TypeDesc.int IntKind.i32, 1, 4, Value.int IntKind.i32 0⟩ := by kernel_rfl
@[simp] theorem ty131 : tyOf Try.prog 131 = some ⟨TypeDesc.struct #[Field.mk "Size_" 12 0 false "" "" 0, Field.mk "PtrBytes" 12 1 false "" "" 8, Field.mk "Hash" 107 2 false "" "" 16, Field.mk "TFlag" 125 3 false "" "" 20, Field.mk "Align_" 5 4 false "" "" 21, Field.mk "FieldAlign_" 5 5 false "" "" 22, Field.mk "Kind_" 126 6 false "" "" 23, Field.mk "Equal" 127 7 false "" "" 24, Field.mk "GCData" 128 8 false "" "" 32, Field.mk "Str" 129 9 false "" "" 40, Field.mk "PtrToThis" 130 10 false "" "" 44], 11, 48, Value.agg #[Value.int IntKind.u64 0, Value.int IntKind.u64 0, Value.int IntKind.u32 0, Value.int IntKind.u8 0, Value.int IntKind.u8 0, Value.int IntKind.u8 0, Value.int IntKind.u8 0, Value.nilFunc, Value.pointer none, Value.int IntKind.i32 0, Value.int IntKind.i32 0]⟩ := by kernel_rfl
@[simp] theorem ty132 : tyOf Try.prog 132 = some ⟨TypeDesc.struct #[Field.mk "Size_" 12 0 false "" "" 0, Field.mk "PtrBytes" 12 1 false "" "" 8, Field.mk "Hash" 107 2 false "" "" 16, Field.mk "TFlag" 125 3 false "" "" 20, Field.mk "Align_" 5 4 false "" "" 21, Field.mk "FieldAlign_" 5 5 false "" "" 22, Field.mk "Kind_" 126 6 false "" "" 23, Field.mk "Equal" 127 7 false "" "" 24, Field.mk "GCData" 128 8 false "" "" 32, Field.mk "Str" 129 9 false "" "" 40, Field.mk "PtrToThis" 130 10 false "" "" 44], 11, 48, Value.agg #[Value.int IntKind.u64 0, Value.int IntKind.u64 0, Value.int IntKind.u32 0, Value.int IntKind.u8 0, Value.int IntKind.u8 0, Value.int IntKind.u8 0, Value.int IntKind.u8 0, Value.nilFunc, Value.pointer none, Value.int IntKind.i32 0, Value.int IntKind.i32 0]⟩ := by kernel_rfl
theorem ent4 : Go.Rp.Enters Try.prog 4 := Go.Rp.enters_of Try.func4 (by kernel_rfl) rfl
theorem ent5 : Go.Rp.Enters Try.prog 5 := Go.Rp.enters_of Try.func5 (by kernel_rfl) rfl
theorem ent6 : Go.Rp.Enters Try.prog 6 := Go.Rp.enters_of Try.func6 (by kernel_rfl) rfl
theorem ent7 : Go.Rp.Enters Try.prog 7 := Go.Rp.enters_of Try.func7 (by kernel_rfl) rfl
theorem ent8 : Go.Rp.Enters Try.prog 8 := Go.Rp.enters_of Try.func8 (by kernel_rfl) rfl
theorem ent9 : Go.Rp.Enters Try.prog 9 := Go.Rp.enters_of Try.func9 (by kernel_rfl) rfl
theorem ent10 : Go.Rp.Enters Try.prog 10 := Go.Rp.enters_of Try.func10 (by kernel_rfl) rfl
theorem ent11 : Go.Rp.Enters Try.prog 11 := Go.Rp.enters_of Try.func11 (by kernel_rfl) rfl
theorem ent12 : Go.Rp.Enters Try.prog 12 := Go.Rp.enters_of Try.func12 (by kernel_rfl) rfl
theorem ent13 : Go.Rp.Enters Try.prog 13 := Go.Rp.enters_of Try.func13 (by kernel_rfl) rfl
theorem ent14 : Go.Rp.Enters Try.prog 14 := Go.Rp.enters_of Try.func14 (by kernel_rfl) rfl
theorem ent15 : Go.Rp.Enters Try.prog 15 := Go.Rp.enters_of Try.func15 (by kernel_rfl) rfl
theorem ent16 : Go.Rp.Enters Try.prog 16 := Go.Rp.enters_of Try.func16 (by kernel_rfl) rfl
theorem ent17 : Go.Rp.Enters Try.prog 17 := Go.Rp.enters_of Try.func17 (by kernel_rfl) rfl
theorem ent18 : Go.Rp.Enters Try.prog 18 := Go.Rp.enters_of Try.func18 (by kernel_rfl) rfl
theorem ent19 : Go.Rp.Enters Try.prog 19 := Go.Rp.enters_of Try.func19 (by kernel_rfl) rfl
theorem ent20 : Go.Rp.Enters Try.prog 20 := Go.Rp.enters_of Try.func20 (by kernel_rfl) rfl
theorem ent21 : Go.Rp.Enters Try.prog 21 := Go.Rp.enters_of Try.func21 (by kernel_rfl) rfl
theorem ent22 : Go.Rp.Enters Try.prog 22 := Go.Rp.enters_of Try.func22 (by kernel_rfl) rfl
theorem ent23 : Go.Rp.Enters Try.prog 23 := Go.Rp.enters_of Try.func23 (by kernel_rfl) rfl
theorem ent24 : Go.Rp.Enters Try.prog 24 := Go.Rp.enters_of Try.func24 (by kernel_rfl) rfl
theorem ent25 : Go.Rp.Enters Try.prog 25 := Go.Rp.enters_of Try.func25 (by kernel_rfl) rfl
theorem ent26 : Go.Rp.Enters Try.prog 26 := Go.Rp.enters_of Try.func26 (by kernel_rfl) rfl
theorem ent27 : Go.Rp.Enters Try.prog 27 := Go.Rp.enters_of Try.func27 (by kernel_rfl) rfl
theorem ent28 : Go.Rp.Enters Try.prog 28 := Go.Rp.enters_of Try.func28 (by kernel_rfl) rfl
theorem ent29 : Go.Rp.Enters Try.prog 29 := Go.Rp.enters_of Try.func29 (by kernel_rfl) rfl
theorem ent30 : Go.Rp.Enters Try.prog 30 := Go.Rp.enters_of Try.func30 (by kernel_rfl) rfl
theorem ent31 : Go.Rp.Enters Try.prog 31 := Go.Rp.enters_of Try.func31 (by kernel_rfl) rfl
theorem ent32 : Go.Rp.Enters Try.prog 32 := Go.Rp.enters_of Try.func32 (by kernel_rfl) rfl
theorem ent33 : Go.Rp.Enters Try.prog 33 := Go.Rp.enters_of Try.func33 (by kernel_rfl) rfl
theorem ent34 : Go.Rp.Enters Try.prog 34 := Go.Rp.enters_of Try.func34 (by kernel_rfl) rfl
theorem ent35 : Go.Rp.Enters Try.prog 35 := Go.Rp.enters_of Try.func35 (by kernel_rfl) rfl
theorem ent36 : Go.Rp.Enters Try.prog 36 := Go.Rp.enters_of Try.func36 (by kernel_rfl) rfl
theorem ent37 : Go.Rp.Enters Try.prog 37 := Go.Rp.enters_of Try.func37 (by kernel_rfl) rfl
theorem ent38 : Go.Rp.Enters Try.prog 38 := Go.Rp.enters_of Try.func38 (by kernel_rfl) rfl
theorem ent39 : Go.Rp.Enters Try.prog 39 := Go.Rp.enters_of Try.func39 (by kernel_rfl) rfl
theorem ent40 : Go.Rp.Enters Try.prog 40 := Go.Rp.enters_of Try.func40 (by kernel_rfl) rfl
theorem ent41 : Go.Rp.Enters Try.prog 41 := Go.Rp.enters_of Try.func41 (by kernel_rfl) rfl
theorem ent42 : Go.Rp.Enters Try.prog 42 := Go.Rp.enters_of Try.func42 (by kernel_rfl) rfl
theorem ent43 : Go.Rp.Enters Try.prog 43 := Go.Rp.enters_of Try.func43 (by kernel_rfl) rfl
theorem ent44 : Go.Rp.Enters Try.prog 44 := Go.Rp.enters_of Try.func44 (by kernel_rfl) rfl
theorem ent45 : Go.Rp.Enters Try.prog 45 := Go.Rp.enters_of Try.func45 (by kernel_rfl) rfl
theorem ent46 : Go.Rp.Enters Try.prog 46 := Go.Rp.enters_of Try.func46 (by kernel_rfl) rfl
end Go.Proofs.Ytifcmomjjkbboab
