/- The types of the program, as the abstract machine asks for them. -/
import Derived.Test.YtifcmomjjkbboaaProg
import Derived.Test.YtifcmomjjkbboaaA3
import Derived.KernelRfl
namespace Go.Proofs.Ytifcmomjjkbboaa
open Go.Ab

@[simp] theorem ty2 : tyOf Try.prog 2 = some ⟨TypeDesc.int IntKind.i64, 1, 8, Value.int IntKind.i64 0⟩ := by kernel_rfl
@[simp] theorem ty3 : tyOf Try.prog 3 = some ⟨TypeDesc.int IntKind.i64, 1, 8, Value.int IntKind.i64 0⟩ := by kernel_rfl
@[simp] theorem ty4 : tyOf Try.prog 4 = some ⟨TypeDesc.bool, 1, 1, Value.bool false⟩ := by kernel_rfl
@[simp] theorem ty5 : tyOf Try.prog 5 = some ⟨TypeDesc.int IntKind.u8, 1, 1, Value.int IntKind.u8 0⟩ := by kernel_rfl
@[simp] theorem ty6 : tyOf Try.prog 6 = some ⟨TypeDesc.int IntKind.u8, 1, 1, Value.int IntKind.u8 0⟩ := by kernel_rfl
@[simp] theorem ty7 : tyOf Try.prog 7 = some ⟨TypeDesc.struct #[Field.mk "x" 2 0 false "" "runtime" 0, Field.mk "y" 3 1 false "" "runtime" 8, Field.mk "signed" 4 2 false "" "runtime" 16, Field.mk "code" 6 3 false "" "runtime" 17], 4, 24, Value.agg #[Value.int IntKind.i64 0, Value.int IntKind.i64 0, Value.bool false, Value.int IntKind.u8 0]⟩ := by kernel_rfl
@[simp] theorem ty8 : tyOf Try.prog 8 = some ⟨TypeDesc.struct #[Field.mk "x" 2 0 false "" "runtime" 0, Field.mk "y" 3 1 false "" "runtime" 8, Field.mk "signed" 4 2 false "" "runtime" 16, Field.mk "code" 6 3 false "" "runtime" 17], 4, 24, Value.agg #[Value.int IntKind.i64 0, Value.int IntKind.i64 0, Value.bool false, Value.int IntKind.u8 0]⟩ := by kernel_rfl
@[simp] theorem ty9 : tyOf Try.prog 9 = some ⟨TypeDesc.string, 1, 16, Value.string (ByteArray.mk #[])⟩ := by kernel_rfl
@[simp] theorem ty10 : tyOf Try.prog 10 = some ⟨TypeDesc.string, 1, 16, Value.string (ByteArray.mk #[])⟩ := by kernel_rfl
@[simp] theorem ty11 : tyOf Try.prog 11 = some ⟨TypeDesc.string, 1, 16, Value.string (ByteArray.mk #[])⟩ := by kernel_rfl
@[simp] theorem ty12 : tyOf Try.prog 12 = some ⟨TypeDesc.int IntKind.u64, 1, 8, Value.int IntKind.u64 0⟩ := by kernel_rfl
@[simp] theorem ty13 : tyOf Try.prog 13 = some ⟨TypeDesc.struct #[Field.mk "msg" 9 0 false "" "runtime" 0, Field.mk "addr" 12 1 false "" "runtime" 16], 2, 24, Value.agg #[Value.string (ByteArray.mk #[]), Value.int IntKind.u64 0]⟩ := by kernel_rfl
@[simp] theorem ty14 : tyOf Try.prog 14 = some ⟨TypeDesc.struct #[Field.mk "msg" 9 0 false "" "runtime" 0, Field.mk "addr" 12 1 false "" "runtime" 16], 2, 24, Value.agg #[Value.string (ByteArray.mk #[]), Value.int IntKind.u64 0]⟩ := by kernel_rfl
@[simp] theorem ty15 : tyOf Try.prog 15 = some ⟨TypeDesc.pointer 83, 1, 8, Value.pointer none⟩ := by kernel_rfl
@[simp] theorem ty16 : tyOf Try.prog 16 = some ⟨TypeDesc.pointer 86, 1, 8, Value.pointer none⟩ := by kernel_rfl
@[simp] theorem ty17 : tyOf Try.prog 17 = some ⟨TypeDesc.pointer 96, 1, 8, Value.pointer none⟩ := by kernel_rfl
@[simp] theorem ty18 : tyOf Try.prog 18 = some ⟨TypeDesc.struct #[Field.mk "typ" 17 0 false "" "internal/runtime/maps" 0], 1, 8, Value.agg #[Value.pointer none]⟩ := by kernel_rfl
@[simp] theorem ty19 : tyOf Try.prog 19 = some ⟨TypeDesc.struct #[Field.mk "typ" 17 0 false "" "internal/runtime/maps" 0], 1, 8, Value.agg #[Value.pointer none]⟩ := by kernel_rfl
@[simp] theorem ty21 : tyOf Try.prog 21 = some ⟨TypeDesc.int IntKind.i32, 1, 4, Value.int IntKind.i32 0⟩ := by kernel_rfl
@[simp] theorem ty22 : tyOf Try.prog 22 = some ⟨TypeDesc.slice 30, 1, 24, Value.slice none 0 0⟩ := by kernel_rfl
@[simp] theorem ty23 : tyOf Try.prog 23 = some ⟨TypeDesc.int IntKind.i64, 1, 8, Value.int IntKind.i64 0⟩ := by kernel_rfl
@[simp] theorem ty26 : tyOf Try.prog 26 = some ⟨TypeDesc.struct #[Field.mk "Tx" 3 0 false "" "" 0, Field.mk "Kind" 3 1 false "" "" 8, Field.mk "Key" 9 2 false "" "" 16], 3, 32, Value.agg #[Value.int IntKind.i64 0, Value.int IntKind.i64 0, Value.string (ByteArray.mk #[])]⟩ := by kernel_rfl
@[simp] theorem ty27 : tyOf Try.prog 27 = some ⟨TypeDesc.struct #[Field.mk "Tx" 3 0 false "" "" 0, Field.mk "Kind" 3 1 false "" "" 8, Field.mk "Key" 9 2 false "" "" 16], 3, 32, Value.agg #[Value.int IntKind.i64 0, Value.int IntKind.i64 0, Value.string (ByteArray.mk #[])]⟩ := by kernel_rfl
@[simp] theorem ty28 : tyOf Try.prog 28 = some ⟨TypeDesc.slice 27, 1, 24, Value.slice none 0 0⟩ := by kernel_rfl
@[simp] theorem ty29 : tyOf Try.prog 29 = some ⟨TypeDesc.slice 28, 1, 24, Value.slice none 0 0⟩ := by kernel_rfl
@[simp] theorem ty30 : tyOf Try.prog 30 = some ⟨TypeDesc.slice 34, 1, 24, Value.slice none 0 0⟩ := by kernel_rfl
@[simp] theorem ty34 : tyOf Try.prog 34 = some ⟨TypeDesc.struct #[Field.mk "Tx" 3 0 false "" "" 0, Field.mk "Kind" 3 1 false "" "" 8, Field.mk "Key" 9 2 false "" "" 16], 3, 32, Value.agg #[Value.int IntKind.i64 0, Value.int IntKind.i64 0, Value.string (ByteArray.mk #[])]⟩ := by kernel_rfl
@[simp] theorem ty40 : tyOf Try.prog 40 = some ⟨TypeDesc.slice 3, 1, 24, Value.slice none 0 0⟩ := by kernel_rfl
@[simp] theorem ty47 : tyOf Try.prog 47 = some ⟨TypeDesc.pointer 49, 1, 8, Value.pointer none⟩ := by kernel_rfl
@[simp] theorem ty48 : tyOf Try.prog 48 = some ⟨TypeDesc.struct #[Field.mk "txs" 29 0 false "" "stemma/interleaving" 0, Field.mk "schedules" 29 1 false "" "stemma/interleaving" 24], 2, 48, Value.agg #[Value.slice none 0 0, Value.slice none 0 0]⟩ := by kernel_rfl
@[simp] theorem ty49 : tyOf Try.prog 49 = some ⟨TypeDesc.struct #[Field.mk "txs" 29 0 false "" "stemma/interleaving" 0, Field.mk "schedules" 29 1 false "" "stemma/interleaving" 24], 2, 48, Value.agg #[Value.slice none 0 0, Value.slice none 0 0]⟩ := by kernel_rfl
@[simp] theorem ty51 : tyOf Try.prog 51 = some ⟨TypeDesc.slice 4, 1, 24, Value.slice none 0 0⟩ := by kernel_rfl
@[simp] theorem ty54 : tyOf Try.prog 54 = some ⟨TypeDesc.map 9 4, 1, 8, Value.map none⟩ := by kernel_rfl
@[simp] theorem ty58 : tyOf Try.prog 58 = some ⟨TypeDesc.slice 5, 1, 24, Value.slice none 0 0⟩ := by kernel_rfl
@[simp] theorem ty64 : tyOf Try.prog 64 = some ⟨TypeDesc.array 20 4, 20, 20, Value.agg #[Value.bool false, Value.bool false, Value.bool false, Value.bool false, Value.bool false, Value.bool false, Value.bool false, Value.bool false, Value.bool false, Value.bool false, Value.bool false, Value.bool false, Value.bool false, Value.bool false, Value.bool false, Value.bool false, Value.bool false, Value.bool false, Value.bool false, Value.bool false]⟩ := by kernel_rfl
@[simp] theorem ty65 : tyOf Try.prog 65 = some ⟨TypeDesc.array 20 64, 400, 400, Value.agg (Array.replicate 400 (Value.bool false))⟩ := by kernel_rfl
@[simp] theorem ty66 : tyOf Try.prog 66 = some ⟨TypeDesc.array 20 64, 400, 400, Value.agg (Array.replicate 400 (Value.bool false))⟩ := by kernel_rfl
@[simp] theorem ty82 : tyOf Try.prog 82 = some ⟨TypeDesc.struct #[Field.mk "_interface" 17 0 false "" "runtime" 0, Field.mk "concrete" 17 1 false "" "runtime" 8, Field.mk "asserted" 17 2 false "" "runtime" 16, Field.mk "missingMethod" 9 3 false "" "runtime" 24], 4, 40, Value.agg #[Value.pointer none, Value.pointer none, Value.pointer none, Value.string (ByteArray.mk #[])]⟩ := by kernel_rfl
@[simp] theorem ty83 : tyOf Try.prog 83 = some ⟨TypeDesc.struct #[Field.mk "_interface" 17 0 false "" "runtime" 0, Field.mk "concrete" 17 1 false "" "runtime" 8, Field.mk "asserted" 17 2 false "" "runtime" 16, Field.mk "missingMethod" 9 3 false "" "runtime" 24], 4, 40, Value.agg #[Value.pointer none, Value.pointer none, Value.pointer none, Value.string (ByteArray.mk #[])]⟩ := by kernel_rfl
@[simp] theorem ty84 : tyOf Try.prog 84 = some ⟨TypeDesc.array 0 16, 0, 0, Value.agg #[]⟩ := by kernel_rfl
@[simp] theorem ty85 : tyOf Try.prog 85 = some ⟨TypeDesc.struct #[Field.mk "_" 84 0 false "" "runtime" 0], 0, 0, Value.agg #[]⟩ := by kernel_rfl
@[simp] theorem ty86 : tyOf Try.prog 86 = some ⟨TypeDesc.struct #[Field.mk "_" 84 0 false "" "runtime" 0], 0, 0, Value.agg #[]⟩ := by kernel_rfl
@[simp] theorem ty88 : tyOf Try.prog 88 = some ⟨TypeDesc.int IntKind.u32, 1, 4, Value.int IntKind.u32 0⟩ := by kernel_rfl
@[simp] theorem ty89 : tyOf Try.prog 89 = some ⟨TypeDesc.int IntKind.u8, 1, 1, Value.int IntKind.u8 0⟩ := by kernel_rfl
@[simp] theorem ty90 : tyOf Try.prog 90 = some ⟨TypeDesc.int IntKind.u8, 1, 1, Value.int IntKind.u8 0⟩ := by kernel_rfl
@[simp] theorem ty92 : tyOf Try.prog 92 = some ⟨TypeDesc.pointer 5, 1, 8, Value.pointer none⟩ := by kernel_rfl
@[simp] theorem ty93 : tyOf Try.prog 93 = some ⟨TypeDesc.int IntKind.i32, 1, 4, Value.int IntKind.i32 0⟩ := by kernel_rfl
@[simp] theorem ty94 : tyOf Try.prog 94 = some ⟨TypeDesc.int IntKind.i32, 1, 4, Value.int IntKind.i32 0⟩ := by kernel_rfl
@[simp] theorem ty95 : tyOf Try.prog 95 = some ⟨TypeDesc.struct #[Field.mk "Size_" 12 0 false "" "" 0, Field.mk "PtrBytes" 12 1 false "" "" 8, Field.mk "Hash" 88 2 false "" "" 16, Field.mk "TFlag" 89 3 false "" "" 20, Field.mk "Align_" 5 4 false "" "" 21, Field.mk "FieldAlign_" 5 5 false "" "" 22, Field.mk "Kind_" 90 6 false "" "" 23, Field.mk "Equal" 91 7 false "" "" 24, Field.mk "GCData" 92 8 false "" "" 32, Field.mk "Str" 93 9 false "" "" 40, Field.mk "PtrToThis" 94 10 false "" "" 44], 11, 48, Value.agg #[Value.int IntKind.u64 0, Value.int IntKind.u64 0, Value.int IntKind.u32 0, Value.int IntKind.u8 0, Value.int IntKind.u8 0, Value.int IntKind.u8 0, Value.int IntKind.u8 0, Value.nilFunc, Value.pointer none, Value.int IntKind.i32 0, Value.int IntKind.i32 0]⟩ := by kernel_rfl
@[simp] theorem ty96 : tyOf Try.prog 96 = some ⟨TypeDesc.struct #[Field.mk "Size_" 12 0 false "" "" 0, Field.mk "PtrBytes" 12 1 false "" "" 8, Field.mk "Hash" 88 2 false "" "" 16, Field.mk "TFlag" 89 3 false "" "" 20, Field.mk "Align_" 5 4 false "" "" 21, Field.mk "FieldAlign_" 5 5 false "" "" 22, Field.mk "Kind_" 90 6 false "" "" 23, Field.mk "Equal" 91 7 false "" "" 24, Field.mk "GCData" 92 8 false "" "" 32, Field.mk "Str" 93 9 false "" "" 40, Field.mk "PtrToThis" 94 10 false "" "" 44], 11, 48, Value.agg #[Value.int IntKind.u64 0, Value.int IntKind.u64 0, Value.int IntKind.u32 0, Value.int IntKind.u8 0, Value.int IntKind.u8 0, Value.int IntKind.u8 0, Value.int IntKind.u8 0, Value.nilFunc, Value.pointer none, Value.int IntKind.i32 0, Value.int IntKind.i32 0]⟩ := by kernel_rfl
theorem ent2 : Go.Rp.Enters Try.prog 2 := Go.Rp.enters_of Try.func2 (by kernel_rfl) rfl
theorem ent3 : Go.Rp.Enters Try.prog 3 := Go.Rp.enters_of Try.func3 (by kernel_rfl) rfl
theorem ent4 : Go.Rp.Enters Try.prog 4 := Go.Rp.enters_of Try.func4 (by kernel_rfl) rfl
theorem ent5 : Go.Rp.Enters Try.prog 5 := Go.Rp.enters_of Try.func5 (by kernel_rfl) rfl
theorem ent6 : Go.Rp.Enters Try.prog 6 := Go.Rp.enters_of Try.func6 (by kernel_rfl) rfl
theorem ent7 : Go.Rp.Enters Try.prog 7 := Go.Rp.enters_of Try.func7 (by kernel_rfl) rfl
theorem ent8 : Go.Rp.Enters Try.prog 8 := Go.Rp.enters_of Try.func8 (by kernel_rfl) rfl
theorem ent9 : Go.Rp.Enters Try.prog 9 := Go.Rp.enters_of Try.func9 (by kernel_rfl) rfl
theorem ent10 : Go.Rp.Enters Try.prog 10 := Go.Rp.enters_of Try.func10 (by kernel_rfl) rfl
theorem ent11 : Go.Rp.Enters Try.prog 11 := Go.Rp.enters_of Try.func11 (by kernel_rfl) rfl
theorem ent12 : Go.Rp.Enters Try.prog 12 := Go.Rp.enters_of Try.func12 (by kernel_rfl) rfl
theorem ent13 : Go.Rp.Enters Try.prog 13 := Go.Rp.enters_of Try.func13 (by kernel_rfl) rfl
theorem ent14 : Go.Rp.Enters Try.prog 14 := Go.Rp.enters_of Try.func14 (by kernel_rfl) rfl
theorem ent15 : Go.Rp.Enters Try.prog 15 := Go.Rp.enters_of Try.func15 (by kernel_rfl) rfl
theorem ent16 : Go.Rp.Enters Try.prog 16 := Go.Rp.enters_of Try.func16 (by kernel_rfl) rfl
theorem ent17 : Go.Rp.Enters Try.prog 17 := Go.Rp.enters_of Try.func17 (by kernel_rfl) rfl
theorem ent18 : Go.Rp.Enters Try.prog 18 := Go.Rp.enters_of Try.func18 (by kernel_rfl) rfl
theorem ent19 : Go.Rp.Enters Try.prog 19 := Go.Rp.enters_of Try.func19 (by kernel_rfl) rfl
theorem ent20 : Go.Rp.Enters Try.prog 20 := Go.Rp.enters_of Try.func20 (by kernel_rfl) rfl
theorem ent21 : Go.Rp.Enters Try.prog 21 := Go.Rp.enters_of Try.func21 (by kernel_rfl) rfl
theorem ent22 : Go.Rp.Enters Try.prog 22 := Go.Rp.enters_of Try.func22 (by kernel_rfl) rfl
theorem ent23 : Go.Rp.Enters Try.prog 23 := Go.Rp.enters_of Try.func23 (by kernel_rfl) rfl
theorem ent24 : Go.Rp.Enters Try.prog 24 := Go.Rp.enters_of Try.func24 (by kernel_rfl) rfl
theorem ent25 : Go.Rp.Enters Try.prog 25 := Go.Rp.enters_of Try.func25 (by kernel_rfl) rfl
theorem ent26 : Go.Rp.Enters Try.prog 26 := Go.Rp.enters_of Try.func26 (by kernel_rfl) rfl
theorem ent27 : Go.Rp.Enters Try.prog 27 := Go.Rp.enters_of Try.func27 (by kernel_rfl) rfl
theorem ent28 : Go.Rp.Enters Try.prog 28 := Go.Rp.enters_of Try.func28 (by kernel_rfl) rfl
theorem ent29 : Go.Rp.Enters Try.prog 29 := Go.Rp.enters_of Try.func29 (by kernel_rfl) rfl
theorem ent30 : Go.Rp.Enters Try.prog 30 := Go.Rp.enters_of Try.func30 (by kernel_rfl) rfl
theorem ent31 : Go.Rp.Enters Try.prog 31 := Go.Rp.enters_of Try.func31 (by kernel_rfl) rfl
theorem ent32 : Go.Rp.Enters Try.prog 32 := Go.Rp.enters_of Try.func32 (by kernel_rfl) rfl
theorem ent33 : Go.Rp.Enters Try.prog 33 := Go.Rp.enters_of Try.func33 (by kernel_rfl) rfl
theorem ent34 : Go.Rp.Enters Try.prog 34 := Go.Rp.enters_of Try.func34 (by kernel_rfl) rfl
theorem ent35 : Go.Rp.Enters Try.prog 35 := Go.Rp.enters_of Try.func35 (by kernel_rfl) rfl
theorem ent36 : Go.Rp.Enters Try.prog 36 := Go.Rp.enters_of Try.func36 (by kernel_rfl) rfl
theorem ent37 : Go.Rp.Enters Try.prog 37 := Go.Rp.enters_of Try.func37 (by kernel_rfl) rfl
theorem ent38 : Go.Rp.Enters Try.prog 38 := Go.Rp.enters_of Try.func38 (by kernel_rfl) rfl
theorem ent39 : Go.Rp.Enters Try.prog 39 := Go.Rp.enters_of Try.func39 (by kernel_rfl) rfl
theorem ent40 : Go.Rp.Enters Try.prog 40 := Go.Rp.enters_of Try.func40 (by kernel_rfl) rfl
theorem ent41 : Go.Rp.Enters Try.prog 41 := Go.Rp.enters_of Try.func41 (by kernel_rfl) rfl
theorem ent42 : Go.Rp.Enters Try.prog 42 := Go.Rp.enters_of Try.func42 (by kernel_rfl) rfl
theorem ent43 : Go.Rp.Enters Try.prog 43 := Go.Rp.enters_of Try.func43 (by kernel_rfl) rfl
end Go.Proofs.Ytifcmomjjkbboaa
