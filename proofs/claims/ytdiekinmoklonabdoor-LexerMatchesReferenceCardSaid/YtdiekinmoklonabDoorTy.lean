/- The types of the program, as the abstract machine asks for them. -/
import Derived.Test.YtdiekinmoklonabDoorProg
import Derived.Test.YtdiekinmoklonabDoorA3
import Derived.KernelRfl
namespace Go.Proofs.YtdiekinmoklonabDoor
open Go.Ab

@[simp] theorem ty2 : tyOf Tryd.prog 2 = some ⟨TypeDesc.int IntKind.i64, 1, 8, Value.int IntKind.i64 0⟩ := by kernel_rfl
@[simp] theorem ty3 : tyOf Tryd.prog 3 = some ⟨TypeDesc.int IntKind.i64, 1, 8, Value.int IntKind.i64 0⟩ := by kernel_rfl
@[simp] theorem ty4 : tyOf Tryd.prog 4 = some ⟨TypeDesc.bool, 1, 1, Value.bool false⟩ := by kernel_rfl
@[simp] theorem ty5 : tyOf Tryd.prog 5 = some ⟨TypeDesc.int IntKind.u8, 1, 1, Value.int IntKind.u8 0⟩ := by kernel_rfl
@[simp] theorem ty6 : tyOf Tryd.prog 6 = some ⟨TypeDesc.int IntKind.u8, 1, 1, Value.int IntKind.u8 0⟩ := by kernel_rfl
@[simp] theorem ty7 : tyOf Tryd.prog 7 = some ⟨TypeDesc.struct #[Field.mk "x" 2 0 false "" "runtime" 0, Field.mk "y" 3 1 false "" "runtime" 8, Field.mk "signed" 4 2 false "" "runtime" 16, Field.mk "code" 6 3 false "" "runtime" 17], 4, 24, Value.agg #[Value.int IntKind.i64 0, Value.int IntKind.i64 0, Value.bool false, Value.int IntKind.u8 0]⟩ := by kernel_rfl
@[simp] theorem ty8 : tyOf Tryd.prog 8 = some ⟨TypeDesc.struct #[Field.mk "x" 2 0 false "" "runtime" 0, Field.mk "y" 3 1 false "" "runtime" 8, Field.mk "signed" 4 2 false "" "runtime" 16, Field.mk "code" 6 3 false "" "runtime" 17], 4, 24, Value.agg #[Value.int IntKind.i64 0, Value.int IntKind.i64 0, Value.bool false, Value.int IntKind.u8 0]⟩ := by kernel_rfl
@[simp] theorem ty9 : tyOf Tryd.prog 9 = some ⟨TypeDesc.string, 1, 16, Value.string (ByteArray.mk #[])⟩ := by kernel_rfl
@[simp] theorem ty10 : tyOf Tryd.prog 10 = some ⟨TypeDesc.string, 1, 16, Value.string (ByteArray.mk #[])⟩ := by kernel_rfl
@[simp] theorem ty11 : tyOf Tryd.prog 11 = some ⟨TypeDesc.string, 1, 16, Value.string (ByteArray.mk #[])⟩ := by kernel_rfl
@[simp] theorem ty12 : tyOf Tryd.prog 12 = some ⟨TypeDesc.int IntKind.u64, 1, 8, Value.int IntKind.u64 0⟩ := by kernel_rfl
@[simp] theorem ty13 : tyOf Tryd.prog 13 = some ⟨TypeDesc.struct #[Field.mk "msg" 9 0 false "" "runtime" 0, Field.mk "addr" 12 1 false "" "runtime" 16], 2, 24, Value.agg #[Value.string (ByteArray.mk #[]), Value.int IntKind.u64 0]⟩ := by kernel_rfl
@[simp] theorem ty14 : tyOf Tryd.prog 14 = some ⟨TypeDesc.struct #[Field.mk "msg" 9 0 false "" "runtime" 0, Field.mk "addr" 12 1 false "" "runtime" 16], 2, 24, Value.agg #[Value.string (ByteArray.mk #[]), Value.int IntKind.u64 0]⟩ := by kernel_rfl
@[simp] theorem ty15 : tyOf Tryd.prog 15 = some ⟨TypeDesc.pointer 88, 1, 8, Value.pointer none⟩ := by kernel_rfl
@[simp] theorem ty16 : tyOf Tryd.prog 16 = some ⟨TypeDesc.pointer 91, 1, 8, Value.pointer none⟩ := by kernel_rfl
@[simp] theorem ty17 : tyOf Tryd.prog 17 = some ⟨TypeDesc.pointer 99, 1, 8, Value.pointer none⟩ := by kernel_rfl
@[simp] theorem ty18 : tyOf Tryd.prog 18 = some ⟨TypeDesc.struct #[Field.mk "typ" 17 0 false "" "internal/runtime/maps" 0], 1, 8, Value.agg #[Value.pointer none]⟩ := by kernel_rfl
@[simp] theorem ty19 : tyOf Tryd.prog 19 = some ⟨TypeDesc.struct #[Field.mk "typ" 17 0 false "" "internal/runtime/maps" 0], 1, 8, Value.agg #[Value.pointer none]⟩ := by kernel_rfl
@[simp] theorem ty21 : tyOf Tryd.prog 21 = some ⟨TypeDesc.int IntKind.i32, 1, 4, Value.int IntKind.i32 0⟩ := by kernel_rfl
@[simp] theorem ty23 : tyOf Tryd.prog 23 = some ⟨TypeDesc.slice 29, 1, 24, Value.slice none 0 0⟩ := by kernel_rfl
@[simp] theorem ty24 : tyOf Tryd.prog 24 = some ⟨TypeDesc.int IntKind.i64, 1, 8, Value.int IntKind.i64 0⟩ := by kernel_rfl
@[simp] theorem ty28 : tyOf Tryd.prog 28 = some ⟨TypeDesc.struct #[Field.mk "Kind" 3 0 false "" "" 0, Field.mk "Text" 9 1 false "" "" 8, Field.mk "Number" 3 2 false "" "" 24, Field.mk "Offset" 3 3 false "" "" 32], 4, 40, Value.agg #[Value.int IntKind.i64 0, Value.string (ByteArray.mk #[]), Value.int IntKind.i64 0, Value.int IntKind.i64 0]⟩ := by kernel_rfl
@[simp] theorem ty29 : tyOf Tryd.prog 29 = some ⟨TypeDesc.struct #[Field.mk "Kind" 3 0 false "" "" 0, Field.mk "Text" 9 1 false "" "" 8, Field.mk "Number" 3 2 false "" "" 24, Field.mk "Offset" 3 3 false "" "" 32], 4, 40, Value.agg #[Value.int IntKind.i64 0, Value.string (ByteArray.mk #[]), Value.int IntKind.i64 0, Value.int IntKind.i64 0]⟩ := by kernel_rfl
@[simp] theorem ty32 : tyOf Tryd.prog 32 = some ⟨TypeDesc.slice 9, 1, 24, Value.slice none 0 0⟩ := by kernel_rfl
@[simp] theorem ty50 : tyOf Tryd.prog 50 = some ⟨TypeDesc.slice 5, 1, 24, Value.slice none 0 0⟩ := by kernel_rfl
@[simp] theorem ty51 : tyOf Tryd.prog 51 = some ⟨TypeDesc.int IntKind.i64, 1, 8, Value.int IntKind.i64 0⟩ := by kernel_rfl
@[simp] theorem ty54 : tyOf Tryd.prog 54 = some ⟨TypeDesc.pointer 64, 1, 8, Value.pointer none⟩ := by kernel_rfl
@[simp] theorem ty58 : tyOf Tryd.prog 58 = some ⟨TypeDesc.int IntKind.u64, 1, 8, Value.int IntKind.u64 0⟩ := by kernel_rfl
@[simp] theorem ty61 : tyOf Tryd.prog 61 = some ⟨TypeDesc.int IntKind.u64, 1, 8, Value.int IntKind.u64 0⟩ := by kernel_rfl
@[simp] theorem ty63 : tyOf Tryd.prog 63 = some ⟨TypeDesc.struct #[Field.mk "Func" 9 0 false "" "" 0, Field.mk "Num" 9 1 false "" "" 16, Field.mk "Err" 44 2 false "" "" 32], 3, 48, Value.agg #[Value.string (ByteArray.mk #[]), Value.string (ByteArray.mk #[]), Value.nilIface]⟩ := by kernel_rfl
@[simp] theorem ty64 : tyOf Tryd.prog 64 = some ⟨TypeDesc.struct #[Field.mk "Func" 9 0 false "" "" 0, Field.mk "Num" 9 1 false "" "" 16, Field.mk "Err" 44 2 false "" "" 32], 3, 48, Value.agg #[Value.string (ByteArray.mk #[]), Value.string (ByteArray.mk #[]), Value.nilIface]⟩ := by kernel_rfl
@[simp] theorem ty66 : tyOf Tryd.prog 66 = some ⟨TypeDesc.array 24 5, 24, 24, Value.agg (Array.replicate 24 (Value.int IntKind.u8 0))⟩ := by kernel_rfl
@[simp] theorem ty72 : tyOf Tryd.prog 72 = some ⟨TypeDesc.pointer 5, 1, 8, Value.pointer none⟩ := by kernel_rfl
@[simp] theorem ty73 : tyOf Tryd.prog 73 = some ⟨TypeDesc.pointer 75, 1, 8, Value.pointer none⟩ := by kernel_rfl
@[simp] theorem ty74 : tyOf Tryd.prog 74 = some ⟨TypeDesc.struct #[Field.mk "s" 9 0 false "" "errors" 0], 1, 16, Value.agg #[Value.string (ByteArray.mk #[])]⟩ := by kernel_rfl
@[simp] theorem ty75 : tyOf Tryd.prog 75 = some ⟨TypeDesc.struct #[Field.mk "s" 9 0 false "" "errors" 0], 1, 16, Value.agg #[Value.string (ByteArray.mk #[])]⟩ := by kernel_rfl
@[simp] theorem ty78 : tyOf Tryd.prog 78 = some ⟨TypeDesc.array 20 58, 20, 160, Value.agg (Array.replicate 20 (Value.int IntKind.u64 0))⟩ := by kernel_rfl
@[simp] theorem ty79 : tyOf Tryd.prog 79 = some ⟨TypeDesc.int IntKind.u32, 1, 4, Value.int IntKind.u32 0⟩ := by kernel_rfl
@[simp] theorem ty84 : tyOf Tryd.prog 84 = some ⟨TypeDesc.array 32 5, 32, 32, Value.agg (Array.replicate 32 (Value.int IntKind.u8 0))⟩ := by kernel_rfl
@[simp] theorem ty85 : tyOf Tryd.prog 85 = some ⟨TypeDesc.array 64 5, 64, 64, Value.agg (Array.replicate 64 (Value.int IntKind.u8 0))⟩ := by kernel_rfl
@[simp] theorem ty87 : tyOf Tryd.prog 87 = some ⟨TypeDesc.struct #[Field.mk "_interface" 17 0 false "" "runtime" 0, Field.mk "concrete" 17 1 false "" "runtime" 8, Field.mk "asserted" 17 2 false "" "runtime" 16, Field.mk "missingMethod" 9 3 false "" "runtime" 24], 4, 40, Value.agg #[Value.pointer none, Value.pointer none, Value.pointer none, Value.string (ByteArray.mk #[])]⟩ := by kernel_rfl
@[simp] theorem ty88 : tyOf Tryd.prog 88 = some ⟨TypeDesc.struct #[Field.mk "_interface" 17 0 false "" "runtime" 0, Field.mk "concrete" 17 1 false "" "runtime" 8, Field.mk "asserted" 17 2 false "" "runtime" 16, Field.mk "missingMethod" 9 3 false "" "runtime" 24], 4, 40, Value.agg #[Value.pointer none, Value.pointer none, Value.pointer none, Value.string (ByteArray.mk #[])]⟩ := by kernel_rfl
@[simp] theorem ty89 : tyOf Tryd.prog 89 = some ⟨TypeDesc.array 0 16, 0, 0, Value.agg #[]⟩ := by kernel_rfl
@[simp] theorem ty90 : tyOf Tryd.prog 90 = some ⟨TypeDesc.struct #[Field.mk "_" 89 0 false "" "runtime" 0], 0, 0, Value.agg #[]⟩ := by kernel_rfl
@[simp] theorem ty91 : tyOf Tryd.prog 91 = some ⟨TypeDesc.struct #[Field.mk "_" 89 0 false "" "runtime" 0], 0, 0, Value.agg #[]⟩ := by kernel_rfl
@[simp] theorem ty93 : tyOf Tryd.prog 93 = some ⟨TypeDesc.int IntKind.u8, 1, 1, Value.int IntKind.u8 0⟩ := by kernel_rfl
@[simp] theorem ty94 : tyOf Tryd.prog 94 = some ⟨TypeDesc.int IntKind.u8, 1, 1, Value.int IntKind.u8 0⟩ := by kernel_rfl
@[simp] theorem ty96 : tyOf Tryd.prog 96 = some ⟨TypeDesc.int IntKind.i32, 1, 4, Value.int IntKind.i32 0⟩ := by kernel_rfl
@[simp] theorem ty97 : tyOf Tryd.prog 97 = some ⟨TypeDesc.int IntKind.i32, 1, 4, Value.int IntKind.i32 0⟩ := by kernel_rfl
@[simp] theorem ty98 : tyOf Tryd.prog 98 = some ⟨TypeDesc.struct #[Field.mk "Size_" 12 0 false "" "" 0, Field.mk "PtrBytes" 12 1 false "" "" 8, Field.mk "Hash" 79 2 false "" "" 16, Field.mk "TFlag" 93 3 false "" "" 20, Field.mk "Align_" 5 4 false "" "" 21, Field.mk "FieldAlign_" 5 5 false "" "" 22, Field.mk "Kind_" 94 6 false "" "" 23, Field.mk "Equal" 95 7 false "" "" 24, Field.mk "GCData" 72 8 false "" "" 32, Field.mk "Str" 96 9 false "" "" 40, Field.mk "PtrToThis" 97 10 false "" "" 44], 11, 48, Value.agg #[Value.int IntKind.u64 0, Value.int IntKind.u64 0, Value.int IntKind.u32 0, Value.int IntKind.u8 0, Value.int IntKind.u8 0, Value.int IntKind.u8 0, Value.int IntKind.u8 0, Value.nilFunc, Value.pointer none, Value.int IntKind.i32 0, Value.int IntKind.i32 0]⟩ := by kernel_rfl
@[simp] theorem ty99 : tyOf Tryd.prog 99 = some ⟨TypeDesc.struct #[Field.mk "Size_" 12 0 false "" "" 0, Field.mk "PtrBytes" 12 1 false "" "" 8, Field.mk "Hash" 79 2 false "" "" 16, Field.mk "TFlag" 93 3 false "" "" 20, Field.mk "Align_" 5 4 false "" "" 21, Field.mk "FieldAlign_" 5 5 false "" "" 22, Field.mk "Kind_" 94 6 false "" "" 23, Field.mk "Equal" 95 7 false "" "" 24, Field.mk "GCData" 72 8 false "" "" 32, Field.mk "Str" 96 9 false "" "" 40, Field.mk "PtrToThis" 97 10 false "" "" 44], 11, 48, Value.agg #[Value.int IntKind.u64 0, Value.int IntKind.u64 0, Value.int IntKind.u32 0, Value.int IntKind.u8 0, Value.int IntKind.u8 0, Value.int IntKind.u8 0, Value.int IntKind.u8 0, Value.nilFunc, Value.pointer none, Value.int IntKind.i32 0, Value.int IntKind.i32 0]⟩ := by kernel_rfl
theorem ent2 : Go.Rp.Enters Tryd.prog 2 := Go.Rp.enters_of Tryd.func2 (by kernel_rfl) rfl
theorem ent3 : Go.Rp.Enters Tryd.prog 3 := Go.Rp.enters_of Tryd.func3 (by kernel_rfl) rfl
theorem ent4 : Go.Rp.Enters Tryd.prog 4 := Go.Rp.enters_of Tryd.func4 (by kernel_rfl) rfl
theorem ent5 : Go.Rp.Enters Tryd.prog 5 := Go.Rp.enters_of Tryd.func5 (by kernel_rfl) rfl
theorem ent6 : Go.Rp.Enters Tryd.prog 6 := Go.Rp.enters_of Tryd.func6 (by kernel_rfl) rfl
theorem ent7 : Go.Rp.Enters Tryd.prog 7 := Go.Rp.enters_of Tryd.func7 (by kernel_rfl) rfl
theorem ent8 : Go.Rp.Enters Tryd.prog 8 := Go.Rp.enters_of Tryd.func8 (by kernel_rfl) rfl
theorem ent9 : Go.Rp.Enters Tryd.prog 9 := Go.Rp.enters_of Tryd.func9 (by kernel_rfl) rfl
theorem ent10 : Go.Rp.Enters Tryd.prog 10 := Go.Rp.enters_of Tryd.func10 (by kernel_rfl) rfl
theorem ent11 : Go.Rp.Enters Tryd.prog 11 := Go.Rp.enters_of Tryd.func11 (by kernel_rfl) rfl
theorem ent12 : Go.Rp.Enters Tryd.prog 12 := Go.Rp.enters_of Tryd.func12 (by kernel_rfl) rfl
theorem ent13 : Go.Rp.Enters Tryd.prog 13 := Go.Rp.enters_of Tryd.func13 (by kernel_rfl) rfl
theorem ent14 : Go.Rp.Enters Tryd.prog 14 := Go.Rp.enters_of Tryd.func14 (by kernel_rfl) rfl
theorem ent15 : Go.Rp.Enters Tryd.prog 15 := Go.Rp.enters_of Tryd.func15 (by kernel_rfl) rfl
theorem ent16 : Go.Rp.Enters Tryd.prog 16 := Go.Rp.enters_of Tryd.func16 (by kernel_rfl) rfl
theorem ent17 : Go.Rp.Enters Tryd.prog 17 := Go.Rp.enters_of Tryd.func17 (by kernel_rfl) rfl
theorem ent18 : Go.Rp.Enters Tryd.prog 18 := Go.Rp.enters_of Tryd.func18 (by kernel_rfl) rfl
theorem ent19 : Go.Rp.Enters Tryd.prog 19 := Go.Rp.enters_of Tryd.func19 (by kernel_rfl) rfl
theorem ent20 : Go.Rp.Enters Tryd.prog 20 := Go.Rp.enters_of Tryd.func20 (by kernel_rfl) rfl
theorem ent21 : Go.Rp.Enters Tryd.prog 21 := Go.Rp.enters_of Tryd.func21 (by kernel_rfl) rfl
theorem ent22 : Go.Rp.Enters Tryd.prog 22 := Go.Rp.enters_of Tryd.func22 (by kernel_rfl) rfl
theorem ent23 : Go.Rp.Enters Tryd.prog 23 := Go.Rp.enters_of Tryd.func23 (by kernel_rfl) rfl
theorem ent24 : Go.Rp.Enters Tryd.prog 24 := Go.Rp.enters_of Tryd.func24 (by kernel_rfl) rfl
theorem ent25 : Go.Rp.Enters Tryd.prog 25 := Go.Rp.enters_of Tryd.func25 (by kernel_rfl) rfl
theorem ent26 : Go.Rp.Enters Tryd.prog 26 := Go.Rp.enters_of Tryd.func26 (by kernel_rfl) rfl
theorem ent27 : Go.Rp.Enters Tryd.prog 27 := Go.Rp.enters_of Tryd.func27 (by kernel_rfl) rfl
theorem ent28 : Go.Rp.Enters Tryd.prog 28 := Go.Rp.enters_of Tryd.func28 (by kernel_rfl) rfl
theorem ent29 : Go.Rp.Enters Tryd.prog 29 := Go.Rp.enters_of Tryd.func29 (by kernel_rfl) rfl
theorem ent30 : Go.Rp.Enters Tryd.prog 30 := Go.Rp.enters_of Tryd.func30 (by kernel_rfl) rfl
theorem ent31 : Go.Rp.Enters Tryd.prog 31 := Go.Rp.enters_of Tryd.func31 (by kernel_rfl) rfl
theorem ent32 : Go.Rp.Enters Tryd.prog 32 := Go.Rp.enters_of Tryd.func32 (by kernel_rfl) rfl
theorem ent33 : Go.Rp.Enters Tryd.prog 33 := Go.Rp.enters_of Tryd.func33 (by kernel_rfl) rfl
theorem ent34 : Go.Rp.Enters Tryd.prog 34 := Go.Rp.enters_of Tryd.func34 (by kernel_rfl) rfl
theorem ent35 : Go.Rp.Enters Tryd.prog 35 := Go.Rp.enters_of Tryd.func35 (by kernel_rfl) rfl
theorem ent36 : Go.Rp.Enters Tryd.prog 36 := Go.Rp.enters_of Tryd.func36 (by kernel_rfl) rfl
theorem ent37 : Go.Rp.Enters Tryd.prog 37 := Go.Rp.enters_of Tryd.func37 (by kernel_rfl) rfl
theorem ent38 : Go.Rp.Enters Tryd.prog 38 := Go.Rp.enters_of Tryd.func38 (by kernel_rfl) rfl
theorem ent39 : Go.Rp.Enters Tryd.prog 39 := Go.Rp.enters_of Tryd.func39 (by kernel_rfl) rfl
theorem ent40 : Go.Rp.Enters Tryd.prog 40 := Go.Rp.enters_of Tryd.func40 (by kernel_rfl) rfl
theorem ent42 : Go.Rp.Enters Tryd.prog 42 := Go.Rp.enters_of Tryd.func42 (by kernel_rfl) rfl
theorem ent43 : Go.Rp.Enters Tryd.prog 43 := Go.Rp.enters_of Tryd.func43 (by kernel_rfl) rfl
theorem ent44 : Go.Rp.Enters Tryd.prog 44 := Go.Rp.enters_of Tryd.func44 (by kernel_rfl) rfl
theorem ent45 : Go.Rp.Enters Tryd.prog 45 := Go.Rp.enters_of Tryd.func45 (by kernel_rfl) rfl
theorem ent46 : Go.Rp.Enters Tryd.prog 46 := Go.Rp.enters_of Tryd.func46 (by kernel_rfl) rfl
theorem ent47 : Go.Rp.Enters Tryd.prog 47 := Go.Rp.enters_of Tryd.func47 (by kernel_rfl) rfl
theorem ent48 : Go.Rp.Enters Tryd.prog 48 := Go.Rp.enters_of Tryd.func48 (by kernel_rfl) rfl
theorem ent49 : Go.Rp.Enters Tryd.prog 49 := Go.Rp.enters_of Tryd.func49 (by kernel_rfl) rfl
theorem ent50 : Go.Rp.Enters Tryd.prog 50 := Go.Rp.enters_of Tryd.func50 (by kernel_rfl) rfl
theorem ent51 : Go.Rp.Enters Tryd.prog 51 := Go.Rp.enters_of Tryd.func51 (by kernel_rfl) rfl
theorem ent52 : Go.Rp.Enters Tryd.prog 52 := Go.Rp.enters_of Tryd.func52 (by kernel_rfl) rfl
theorem ent53 : Go.Rp.Enters Tryd.prog 53 := Go.Rp.enters_of Tryd.func53 (by kernel_rfl) rfl
theorem ent54 : Go.Rp.Enters Tryd.prog 54 := Go.Rp.enters_of Tryd.func54 (by kernel_rfl) rfl
theorem ent55 : Go.Rp.Enters Tryd.prog 55 := Go.Rp.enters_of Tryd.func55 (by kernel_rfl) rfl
theorem ent56 : Go.Rp.Enters Tryd.prog 56 := Go.Rp.enters_of Tryd.func56 (by kernel_rfl) rfl
theorem ent57 : Go.Rp.Enters Tryd.prog 57 := Go.Rp.enters_of Tryd.func57 (by kernel_rfl) rfl
end Go.Proofs.YtdiekinmoklonabDoor
