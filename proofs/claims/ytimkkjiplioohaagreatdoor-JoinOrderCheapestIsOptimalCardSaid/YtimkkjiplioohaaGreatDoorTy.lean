/- The types of the program, as the abstract machine asks for them. -/
import Derived.Test.YtimkkjiplioohaaGreatDoorProg
import Derived.Test.YtimkkjiplioohaaGreatDoorA4
import Derived.KernelRfl
namespace Go.Proofs.YtimkkjiplioohaaGreatDoor
open Go.Ab

@[simp] theorem ty3 : tyOf Tryz.prog 3 = some ⟨TypeDesc.int IntKind.i64, 1, 8, Value.int IntKind.i64 0⟩ := by kernel_rfl
@[simp] theorem ty4 : tyOf Tryz.prog 4 = some ⟨TypeDesc.bool, 1, 1, Value.bool false⟩ := by kernel_rfl
@[simp] theorem ty22 : tyOf Tryz.prog 22 = some ⟨TypeDesc.slice 3, 1, 24, Value.slice none 0 0⟩ := by kernel_rfl
@[simp] theorem ty23 : tyOf Tryz.prog 23 = some ⟨TypeDesc.slice 115, 1, 24, Value.slice none 0 0⟩ := by kernel_rfl
@[simp] theorem ty25 : tyOf Tryz.prog 25 = some ⟨TypeDesc.struct #[Field.mk "Sizes" 22 0 false "" "" 0, Field.mk "Selectivities" 23 1 false "" "" 24], 2, 48, Value.agg #[Value.slice none 0 0, Value.slice none 0 0]⟩ := by kernel_rfl
@[simp] theorem ty26 : tyOf Tryz.prog 26 = some ⟨TypeDesc.slice 28, 1, 24, Value.slice none 0 0⟩ := by kernel_rfl
@[simp] theorem ty28 : tyOf Tryz.prog 28 = some ⟨TypeDesc.struct #[Field.mk "Leaf" 3 0 false "" "" 0, Field.mk "Children" 26 1 false "" "" 8], 2, 32, Value.agg #[Value.int IntKind.i64 0, Value.slice none 0 0]⟩ := by kernel_rfl
@[simp] theorem ty35 : tyOf Tryz.prog 35 = some ⟨TypeDesc.slice 4, 1, 24, Value.slice none 0 0⟩ := by kernel_rfl
@[simp] theorem ty115 : tyOf Tryz.prog 115 = some ⟨TypeDesc.struct #[Field.mk "A" 3 0 false "" "" 0, Field.mk "B" 3 1 false "" "" 8, Field.mk "Divisor" 3 2 false "" "" 16], 3, 24, Value.agg #[Value.int IntKind.i64 0, Value.int IntKind.i64 0, Value.int IntKind.i64 0]⟩ := by kernel_rfl
@[simp] theorem ty118 : tyOf Tryz.prog 118 = some ⟨TypeDesc.slice 122, 1, 24, Value.slice none 0 0⟩ := by kernel_rfl
@[simp] theorem ty120 : tyOf Tryz.prog 120 = some ⟨TypeDesc.int IntKind.u64, 1, 8, Value.int IntKind.u64 0⟩ := by kernel_rfl
@[simp] theorem ty122 : tyOf Tryz.prog 122 = some ⟨TypeDesc.struct #[Field.mk "tree" 28 0 false "" "stemma/joinorder" 0, Field.mk "cost" 3 2 false "" "stemma/joinorder" 32, Field.mk "ok" 4 3 false "" "stemma/joinorder" 40], 4, 48, Value.agg #[Value.int IntKind.i64 0, Value.slice none 0 0, Value.int IntKind.i64 0, Value.bool false]⟩ := by kernel_rfl
@[simp] theorem ty170 : tyOf Tryz.prog 170 = some ⟨TypeDesc.int IntKind.u64, 1, 8, Value.int IntKind.u64 0⟩ := by kernel_rfl
theorem ent9 : Go.Rp.Enters Tryz.prog 9 := Go.Rp.enters_of Tryz.func9 (by kernel_rfl) rfl
theorem ent12 : Go.Rp.Enters Tryz.prog 12 := Go.Rp.enters_of Tryz.func12 (by kernel_rfl) rfl
theorem ent13 : Go.Rp.Enters Tryz.prog 13 := Go.Rp.enters_of Tryz.func13 (by kernel_rfl) rfl
theorem ent14 : Go.Rp.Enters Tryz.prog 14 := Go.Rp.enters_of Tryz.func14 (by kernel_rfl) rfl
theorem ent16 : Go.Rp.Enters Tryz.prog 16 := Go.Rp.enters_of Tryz.func16 (by kernel_rfl) rfl
theorem ent17 : Go.Rp.Enters Tryz.prog 17 := Go.Rp.enters_of Tryz.func17 (by kernel_rfl) rfl
theorem ent18 : Go.Rp.Enters Tryz.prog 18 := Go.Rp.enters_of Tryz.func18 (by kernel_rfl) rfl
theorem ent19 : Go.Rp.Enters Tryz.prog 19 := Go.Rp.enters_of Tryz.func19 (by kernel_rfl) rfl
theorem ent20 : Go.Rp.Enters Tryz.prog 20 := Go.Rp.enters_of Tryz.func20 (by kernel_rfl) rfl
theorem ent49 : Go.Rp.Enters Tryz.prog 49 := Go.Rp.enters_of Tryz.func49 (by kernel_rfl) rfl
theorem ent50 : Go.Rp.Enters Tryz.prog 50 := Go.Rp.enters_of Tryz.func50 (by kernel_rfl) rfl
theorem ent51 : Go.Rp.Enters Tryz.prog 51 := Go.Rp.enters_of Tryz.func51 (by kernel_rfl) rfl
theorem ent52 : Go.Rp.Enters Tryz.prog 52 := Go.Rp.enters_of Tryz.func52 (by kernel_rfl) rfl
theorem ent53 : Go.Rp.Enters Tryz.prog 53 := Go.Rp.enters_of Tryz.func53 (by kernel_rfl) rfl
theorem ent54 : Go.Rp.Enters Tryz.prog 54 := Go.Rp.enters_of Tryz.func54 (by kernel_rfl) rfl
theorem ent55 : Go.Rp.Enters Tryz.prog 55 := Go.Rp.enters_of Tryz.func55 (by kernel_rfl) rfl
theorem ent89 : Go.Rp.Enters Tryz.prog 89 := Go.Rp.enters_of Tryz.func89 (by kernel_rfl) rfl
theorem ent95 : Go.Rp.Enters Tryz.prog 95 := Go.Rp.enters_of Tryz.func95 (by kernel_rfl) rfl
theorem ent97 : Go.Rp.Enters Tryz.prog 97 := Go.Rp.enters_of Tryz.func97 (by kernel_rfl) rfl
theorem ent120 : Go.Rp.Enters Tryz.prog 120 := Go.Rp.enters_of Tryz.func120 (by kernel_rfl) rfl
theorem ent205 : Go.Rp.Enters Tryz.prog 205 := Go.Rp.enters_of Tryz.func205 (by kernel_rfl) rfl
end Go.Proofs.YtimkkjiplioohaaGreatDoor
