import Derived.Test.YtbbedhidiffdgaaAbE
import Derived.Test.YtbbedhidiffdgaaTys
namespace Go.Proofs.Ytbbedhidiffdgaa
open Go.RowKit
set_option linter.unusedSimpArgs false
set_option linter.unusedVariables false
theorem mix : Try.prog.follows .mixedOrders = true := by kernel_rfl
theorem en10 : Enters Try.prog 10 := fun vs w => by kernel_rfl
theorem en11 : Enters Try.prog 11 := fun vs w => by kernel_rfl
theorem en12 : Enters Try.prog 12 := fun vs w => by kernel_rfl
theorem en13 : Enters Try.prog 13 := fun vs w => by kernel_rfl
theorem en14 : Enters Try.prog 14 := fun vs w => by kernel_rfl
theorem en15 : Enters Try.prog 15 := fun vs w => by kernel_rfl
theorem en16 : Enters Try.prog 16 := fun vs w => by kernel_rfl
theorem en17 : Enters Try.prog 17 := fun vs w => by kernel_rfl
theorem en18 : Enters Try.prog 18 := fun vs w => by kernel_rfl
theorem en19 : Enters Try.prog 19 := fun vs w => by kernel_rfl
theorem en20 : Enters Try.prog 20 := fun vs w => by kernel_rfl
theorem en21 : Enters Try.prog 21 := fun vs w => by kernel_rfl
theorem en22 : Enters Try.prog 22 := fun vs w => by kernel_rfl
theorem en23 : Enters Try.prog 23 := fun vs w => by kernel_rfl
theorem en24 : Enters Try.prog 24 := fun vs w => by kernel_rfl
theorem en25 : Enters Try.prog 25 := fun vs w => by kernel_rfl
theorem en26 : Enters Try.prog 26 := fun vs w => by kernel_rfl
theorem en27 : Enters Try.prog 27 := fun vs w => by kernel_rfl
theorem en28 : Enters Try.prog 28 := fun vs w => by kernel_rfl
theorem en29 : Enters Try.prog 29 := fun vs w => by kernel_rfl
theorem en30 : Enters Try.prog 30 := fun vs w => by kernel_rfl
theorem en31 : Enters Try.prog 31 := fun vs w => by kernel_rfl
theorem en32 : Enters Try.prog 32 := fun vs w => by kernel_rfl
theorem en33 : Enters Try.prog 33 := fun vs w => by kernel_rfl
theorem en34 : Enters Try.prog 34 := fun vs w => by kernel_rfl
theorem en35 : Enters Try.prog 35 := fun vs w => by kernel_rfl
theorem en36 : Enters Try.prog 36 := fun vs w => by kernel_rfl
theorem en37 : Enters Try.prog 37 := fun vs w => by kernel_rfl
theorem en38 : Enters Try.prog 38 := fun vs w => by kernel_rfl
theorem en39 : Enters Try.prog 39 := fun vs w => by kernel_rfl
theorem en40 : Enters Try.prog 40 := fun vs w => by kernel_rfl
theorem en41 : Enters Try.prog 41 := fun vs w => by kernel_rfl
theorem en42 : Enters Try.prog 42 := fun vs w => by kernel_rfl
theorem en43 : Enters Try.prog 43 := fun vs w => by kernel_rfl
theorem en44 : Enters Try.prog 44 := fun vs w => by kernel_rfl
theorem en45 : Enters Try.prog 45 := fun vs w => by kernel_rfl
theorem en46 : Enters Try.prog 46 := fun vs w => by kernel_rfl
theorem en47 : Enters Try.prog 47 := fun vs w => by kernel_rfl
theorem en48 : Enters Try.prog 48 := fun vs w => by kernel_rfl
theorem en49 : Enters Try.prog 49 := fun vs w => by kernel_rfl
theorem en50 : Enters Try.prog 50 := fun vs w => by kernel_rfl
theorem en51 : Enters Try.prog 51 := fun vs w => by kernel_rfl
theorem en52 : Enters Try.prog 52 := fun vs w => by kernel_rfl
theorem en53 : Enters Try.prog 53 := fun vs w => by kernel_rfl
theorem en54 : Enters Try.prog 54 := fun vs w => by kernel_rfl
theorem en55 : Enters Try.prog 55 := fun vs w => by kernel_rfl
theorem en56 : Enters Try.prog 56 := fun vs w => by kernel_rfl
theorem en57 : Enters Try.prog 57 := fun vs w => by kernel_rfl
theorem en58 : Enters Try.prog 58 := fun vs w => by kernel_rfl
theorem en59 : Enters Try.prog 59 := fun vs w => by kernel_rfl
theorem en60 : Enters Try.prog 60 := fun vs w => by kernel_rfl
theorem en61 : Enters Try.prog 61 := fun vs w => by kernel_rfl
theorem en62 : Enters Try.prog 62 := fun vs w => by kernel_rfl
theorem en63 : Enters Try.prog 63 := fun vs w => by kernel_rfl
theorem en64 : Enters Try.prog 64 := fun vs w => by kernel_rfl
theorem en65 : Enters Try.prog 65 := fun vs w => by kernel_rfl
theorem en66 : Enters Try.prog 66 := fun vs w => by kernel_rfl
theorem en67 : Enters Try.prog 67 := fun vs w => by kernel_rfl
theorem en68 : Enters Try.prog 68 := fun vs w => by kernel_rfl
theorem en69 : Enters Try.prog 69 := fun vs w => by kernel_rfl
theorem en70 : Enters Try.prog 70 := fun vs w => by kernel_rfl
theorem pl45 : plIs Try.prog 45 [(0, 1), (1, 1), (2, 1), (3, 1)] := ⟨_, Try.underlying45, by kernel_rfl⟩
theorem pl48 : plIs Try.prog 48 [(0, 1), (1, 1), (2, 4), (6, 1), (7, 1), (8, 1)] := ⟨_, Try.underlying48, by kernel_rfl⟩
theorem pl25 : plIs Try.prog 25 [(0, 1), (1, 1), (2, 1)] := ⟨_, Try.underlying25, by kernel_rfl⟩
theorem pl63 : plIs Try.prog 63 [(0, 1), (1, 1)] := ⟨_, Try.underlying63, by kernel_rfl⟩
end Go.Proofs.Ytbbedhidiffdgaa
