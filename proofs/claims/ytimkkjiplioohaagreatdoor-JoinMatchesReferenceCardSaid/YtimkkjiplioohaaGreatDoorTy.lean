/- The types of the program, as the abstract machine asks for them. -/
import Derived.Test.YtimkkjiplioohaaGreatDoorProg
import Derived.Test.YtimkkjiplioohaaGreatDoorA4
import Derived.KernelRfl
namespace Go.Proofs.YtimkkjiplioohaaGreatDoor
open Go.Ab

@[simp] theorem ty3 : tyOf Tryz.prog 3 = some ⟨TypeDesc.int IntKind.i64, 1, 8, Value.int IntKind.i64 0⟩ := by kernel_rfl
@[simp] theorem ty4 : tyOf Tryz.prog 4 = some ⟨TypeDesc.bool, 1, 1, Value.bool false⟩ := by kernel_rfl
@[simp] theorem ty9 : tyOf Tryz.prog 9 = some ⟨TypeDesc.string, 1, 16, Value.string (ByteArray.mk #[])⟩ := by kernel_rfl
@[simp] theorem ty22 : tyOf Tryz.prog 22 = some ⟨TypeDesc.slice 3, 1, 24, Value.slice none 0 0⟩ := by kernel_rfl
@[simp] theorem ty48 : tyOf Tryz.prog 48 = some ⟨TypeDesc.slice 57, 1, 24, Value.slice none 0 0⟩ := by kernel_rfl
@[simp] theorem ty50 : tyOf Tryz.prog 50 = some ⟨TypeDesc.struct #[Field.mk "Left" 22 0 false "" "" 0, Field.mk "Right" 22 1 false "" "" 24, Field.mk "Outer" 4 2 false "" "" 48, Field.mk "RightWidth" 3 3 false "" "" 56], 4, 64, Value.agg #[Value.slice none 0 0, Value.slice none 0 0, Value.bool false, Value.int IntKind.i64 0]⟩ := by kernel_rfl
@[simp] theorem ty57 : tyOf Tryz.prog 57 = some ⟨TypeDesc.slice 61, 1, 24, Value.slice none 0 0⟩ := by kernel_rfl
@[simp] theorem ty61 : tyOf Tryz.prog 61 = some ⟨TypeDesc.struct #[Field.mk "Kind" 3 0 false "" "" 0, Field.mk "Int" 3 1 false "" "" 8, Field.mk "Text" 9 2 false "" "" 16], 3, 32, Value.agg #[Value.int IntKind.i64 0, Value.int IntKind.i64 0, Value.string (ByteArray.mk #[])]⟩ := by kernel_rfl
@[simp] theorem ty126 : tyOf Tryz.prog 126 = some ⟨TypeDesc.slice 48, 1, 24, Value.slice none 0 0⟩ := by kernel_rfl
@[simp] theorem ty133 : tyOf Tryz.prog 133 = some ⟨TypeDesc.map 9 48, 1, 8, Value.map none⟩ := by kernel_rfl
@[simp] theorem ty135 : tyOf Tryz.prog 135 = some ⟨TypeDesc.map 9 4, 1, 8, Value.map none⟩ := by kernel_rfl
@[simp] theorem ty136 : tyOf Tryz.prog 136 = some ⟨TypeDesc.struct #[Field.mk "rows" 48 0 false "" "stemma/joinalgo" 0, Field.mk "at" 22 1 false "" "stemma/joinalgo" 24], 2, 48, Value.agg #[Value.slice none 0 0, Value.slice none 0 0]⟩ := by kernel_rfl
@[simp] theorem ty137 : tyOf Tryz.prog 137 = some ⟨TypeDesc.slice 136, 1, 24, Value.slice none 0 0⟩ := by kernel_rfl
theorem ent9 : Go.Rp.Enters Tryz.prog 9 := Go.Rp.enters_of Tryz.func9 (by kernel_rfl) rfl
theorem ent21 : Go.Rp.Enters Tryz.prog 21 := Go.Rp.enters_of Tryz.func21 (by kernel_rfl) rfl
theorem ent22 : Go.Rp.Enters Tryz.prog 22 := Go.Rp.enters_of Tryz.func22 (by kernel_rfl) rfl
theorem ent23 : Go.Rp.Enters Tryz.prog 23 := Go.Rp.enters_of Tryz.func23 (by kernel_rfl) rfl
theorem ent24 : Go.Rp.Enters Tryz.prog 24 := Go.Rp.enters_of Tryz.func24 (by kernel_rfl) rfl
theorem ent25 : Go.Rp.Enters Tryz.prog 25 := Go.Rp.enters_of Tryz.func25 (by kernel_rfl) rfl
theorem ent26 : Go.Rp.Enters Tryz.prog 26 := Go.Rp.enters_of Tryz.func26 (by kernel_rfl) rfl
theorem ent27 : Go.Rp.Enters Tryz.prog 27 := Go.Rp.enters_of Tryz.func27 (by kernel_rfl) rfl
theorem ent28 : Go.Rp.Enters Tryz.prog 28 := Go.Rp.enters_of Tryz.func28 (by kernel_rfl) rfl
theorem ent34 : Go.Rp.Enters Tryz.prog 34 := Go.Rp.enters_of Tryz.func34 (by kernel_rfl) rfl
theorem ent39 : Go.Rp.Enters Tryz.prog 39 := Go.Rp.enters_of Tryz.func39 (by kernel_rfl) rfl
theorem ent47 : Go.Rp.Enters Tryz.prog 47 := Go.Rp.enters_of Tryz.func47 (by kernel_rfl) rfl
theorem ent56 : Go.Rp.Enters Tryz.prog 56 := Go.Rp.enters_of Tryz.func56 (by kernel_rfl) rfl
theorem ent57 : Go.Rp.Enters Tryz.prog 57 := Go.Rp.enters_of Tryz.func57 (by kernel_rfl) rfl
theorem ent58 : Go.Rp.Enters Tryz.prog 58 := Go.Rp.enters_of Tryz.func58 (by kernel_rfl) rfl
theorem ent59 : Go.Rp.Enters Tryz.prog 59 := Go.Rp.enters_of Tryz.func59 (by kernel_rfl) rfl
theorem ent60 : Go.Rp.Enters Tryz.prog 60 := Go.Rp.enters_of Tryz.func60 (by kernel_rfl) rfl
theorem ent61 : Go.Rp.Enters Tryz.prog 61 := Go.Rp.enters_of Tryz.func61 (by kernel_rfl) rfl
theorem ent62 : Go.Rp.Enters Tryz.prog 62 := Go.Rp.enters_of Tryz.func62 (by kernel_rfl) rfl
theorem ent63 : Go.Rp.Enters Tryz.prog 63 := Go.Rp.enters_of Tryz.func63 (by kernel_rfl) rfl
theorem ent64 : Go.Rp.Enters Tryz.prog 64 := Go.Rp.enters_of Tryz.func64 (by kernel_rfl) rfl
theorem ent89 : Go.Rp.Enters Tryz.prog 89 := Go.Rp.enters_of Tryz.func89 (by kernel_rfl) rfl
theorem ent98 : Go.Rp.Enters Tryz.prog 98 := Go.Rp.enters_of Tryz.func98 (by kernel_rfl) rfl
theorem ent99 : Go.Rp.Enters Tryz.prog 99 := Go.Rp.enters_of Tryz.func99 (by kernel_rfl) rfl
theorem ent120 : Go.Rp.Enters Tryz.prog 120 := Go.Rp.enters_of Tryz.func120 (by kernel_rfl) rfl
theorem ent205 : Go.Rp.Enters Tryz.prog 205 := Go.Rp.enters_of Tryz.func205 (by kernel_rfl) rfl
end Go.Proofs.YtimkkjiplioohaaGreatDoor
