import Derived.Test.YtbbedhidiffdgaaAbE
import Derived.Test.YtbbedhidiffdgaaProg
import Derived.KernelRfl
namespace Go.Proofs.Ytbbedhidiffdgaa
open Go.RowKit
set_option linter.unusedSimpArgs false
set_option linter.unusedVariables false
theorem sz2 : sizeIs Try.prog 2 1 := by unfold sizeIs; kernel_rfl
theorem ag2 : aggB Try.prog 2 = some false := by kernel_rfl
theorem ze2 : zeroIs Try.prog 2 (.int .i64 0) 1 8 := ⟨by kernel_rfl, rfl, by simp [Value.cells, Value.oneCell']⟩
theorem sz3 : sizeIs Try.prog 3 1 := by unfold sizeIs; kernel_rfl
theorem ag3 : aggB Try.prog 3 = some false := by kernel_rfl
theorem ze3 : zeroIs Try.prog 3 (.int .i64 0) 1 8 := ⟨by kernel_rfl, rfl, by simp [Value.cells, Value.oneCell']⟩
theorem sz4 : sizeIs Try.prog 4 1 := by unfold sizeIs; kernel_rfl
theorem ag4 : aggB Try.prog 4 = some false := by kernel_rfl
theorem ze4 : zeroIs Try.prog 4 (.bool false) 1 1 := ⟨by kernel_rfl, rfl, by simp [Value.cells, Value.oneCell']⟩
theorem sz5 : sizeIs Try.prog 5 1 := by unfold sizeIs; kernel_rfl
theorem ag5 : aggB Try.prog 5 = some false := by kernel_rfl
theorem ze5 : zeroIs Try.prog 5 (.int .u8 0) 1 1 := ⟨by kernel_rfl, rfl, by simp [Value.cells, Value.oneCell']⟩
theorem sz9 : sizeIs Try.prog 9 1 := by unfold sizeIs; kernel_rfl
theorem ag9 : aggB Try.prog 9 = some false := by kernel_rfl
theorem ze9 : zeroIs Try.prog 9 (.string ⟨#[]⟩) 1 16 := ⟨by kernel_rfl, rfl, by simp [Value.cells, Value.oneCell']⟩
theorem sz12 : sizeIs Try.prog 12 1 := by unfold sizeIs; kernel_rfl
theorem ag12 : aggB Try.prog 12 = some false := by kernel_rfl
theorem ze12 : zeroIs Try.prog 12 (.int .u64 0) 1 8 := ⟨by kernel_rfl, rfl, by simp [Value.cells, Value.oneCell']⟩
theorem sz13 : sizeIs Try.prog 13 2 := by unfold sizeIs; kernel_rfl
theorem ag13 : aggB Try.prog 13 = some true := by kernel_rfl
theorem ze13 : zeroIs Try.prog 13 (.agg #[.string ⟨#[]⟩, .int .u64 0]) 2 24 := ⟨by kernel_rfl, rfl, by simp [Value.cells, Value.oneCell']⟩
theorem fl13_0 : fieldIs Try.prog 13 0 0 9 := ⟨_, _, Try.underlying13, rfl, rfl, rfl⟩
theorem fl13_1 : fieldIs Try.prog 13 1 1 12 := ⟨_, _, Try.underlying13, rfl, rfl, rfl⟩
theorem sz21 : sizeIs Try.prog 21 1 := by unfold sizeIs; kernel_rfl
theorem ag21 : aggB Try.prog 21 = some false := by kernel_rfl
theorem ze21 : zeroIs Try.prog 21 (.int .i32 0) 1 4 := ⟨by kernel_rfl, rfl, by simp [Value.cells, Value.oneCell']⟩
theorem sz22 : sizeIs Try.prog 22 1 := by unfold sizeIs; kernel_rfl
theorem ag22 : aggB Try.prog 22 = some false := by kernel_rfl
theorem ze22 : zeroIs Try.prog 22 (.slice none 0 0) 1 24 := ⟨by kernel_rfl, rfl, by simp [Value.cells, Value.oneCell']⟩
theorem sz23 : sizeIs Try.prog 23 1 := by unfold sizeIs; kernel_rfl
theorem ag23 : aggB Try.prog 23 = some false := by kernel_rfl
theorem ze23 : zeroIs Try.prog 23 (.slice none 0 0) 1 24 := ⟨by kernel_rfl, rfl, by simp [Value.cells, Value.oneCell']⟩
theorem sz24 : sizeIs Try.prog 24 3 := by unfold sizeIs; kernel_rfl
theorem ag24 : aggB Try.prog 24 = some true := by kernel_rfl
theorem ze24 : zeroIs Try.prog 24 (.agg #[.int .i64 0, .int .i64 0, .int .i64 0]) 3 24 := ⟨by kernel_rfl, rfl, by simp [Value.cells, Value.oneCell']⟩
theorem fl24_0 : fieldIs Try.prog 24 0 0 3 := ⟨_, _, Try.underlying24, rfl, rfl, rfl⟩
theorem fl24_1 : fieldIs Try.prog 24 1 1 3 := ⟨_, _, Try.underlying24, rfl, rfl, rfl⟩
theorem fl24_2 : fieldIs Try.prog 24 2 2 3 := ⟨_, _, Try.underlying24, rfl, rfl, rfl⟩
theorem sz25 : sizeIs Try.prog 25 3 := by unfold sizeIs; kernel_rfl
theorem ag25 : aggB Try.prog 25 = some true := by kernel_rfl
theorem ze25 : zeroIs Try.prog 25 (.agg #[.int .i64 0, .int .i64 0, .int .i64 0]) 3 24 := ⟨by kernel_rfl, rfl, by simp [Value.cells, Value.oneCell']⟩
theorem fl25_0 : fieldIs Try.prog 25 0 0 3 := ⟨_, _, Try.underlying25, rfl, rfl, rfl⟩
theorem fl25_1 : fieldIs Try.prog 25 1 1 3 := ⟨_, _, Try.underlying25, rfl, rfl, rfl⟩
theorem fl25_2 : fieldIs Try.prog 25 2 2 3 := ⟨_, _, Try.underlying25, rfl, rfl, rfl⟩
theorem sz27 : sizeIs Try.prog 27 1 := by unfold sizeIs; kernel_rfl
theorem ag27 : aggB Try.prog 27 = some false := by kernel_rfl
theorem ze27 : zeroIs Try.prog 27 (.pointer none) 1 8 := ⟨by kernel_rfl, rfl, by simp [Value.cells, Value.oneCell']⟩
theorem sz31 : sizeIs Try.prog 31 1 := by unfold sizeIs; kernel_rfl
theorem ag31 : aggB Try.prog 31 = some false := by kernel_rfl
theorem ze31 : zeroIs Try.prog 31 (.slice none 0 0) 1 24 := ⟨by kernel_rfl, rfl, by simp [Value.cells, Value.oneCell']⟩
theorem sz32 : sizeIs Try.prog 32 1 := by unfold sizeIs; kernel_rfl
theorem ag32 : aggB Try.prog 32 = some false := by kernel_rfl
theorem ze32 : zeroIs Try.prog 32 (.int .i64 0) 1 8 := ⟨by kernel_rfl, rfl, by simp [Value.cells, Value.oneCell']⟩
theorem sz35 : sizeIs Try.prog 35 1 := by unfold sizeIs; kernel_rfl
theorem ag35 : aggB Try.prog 35 = some false := by kernel_rfl
theorem ze35 : zeroIs Try.prog 35 (.slice none 0 0) 1 24 := ⟨by kernel_rfl, rfl, by simp [Value.cells, Value.oneCell']⟩
theorem sz40 : sizeIs Try.prog 40 8 := by unfold sizeIs; kernel_rfl
theorem ag40 : aggB Try.prog 40 = some true := by kernel_rfl
theorem ze40 : zeroIs Try.prog 40 (.agg #[.int .i64 0, .int .i64 0, .int .i64 0, .int .i64 0, .int .i64 0, .int .i64 0, .int .i64 0, .int .i64 0]) 8 64 := ⟨by kernel_rfl, rfl, by simp [Value.cells, Value.oneCell']⟩
theorem sz44 : sizeIs Try.prog 44 4 := by unfold sizeIs; kernel_rfl
theorem ag44 : aggB Try.prog 44 = some true := by kernel_rfl
theorem ze44 : zeroIs Try.prog 44 (.agg #[.string ⟨#[]⟩, .int .i64 0, .string ⟨#[]⟩, .int .i64 0]) 4 48 := ⟨by kernel_rfl, rfl, by simp [Value.cells, Value.oneCell']⟩
theorem fl44_0 : fieldIs Try.prog 44 0 0 9 := ⟨_, _, Try.underlying44, rfl, rfl, rfl⟩
theorem fl44_1 : fieldIs Try.prog 44 1 1 3 := ⟨_, _, Try.underlying44, rfl, rfl, rfl⟩
theorem fl44_2 : fieldIs Try.prog 44 2 2 9 := ⟨_, _, Try.underlying44, rfl, rfl, rfl⟩
theorem fl44_3 : fieldIs Try.prog 44 3 3 3 := ⟨_, _, Try.underlying44, rfl, rfl, rfl⟩
theorem sz45 : sizeIs Try.prog 45 4 := by unfold sizeIs; kernel_rfl
theorem ag45 : aggB Try.prog 45 = some true := by kernel_rfl
theorem ze45 : zeroIs Try.prog 45 (.agg #[.string ⟨#[]⟩, .int .i64 0, .string ⟨#[]⟩, .int .i64 0]) 4 48 := ⟨by kernel_rfl, rfl, by simp [Value.cells, Value.oneCell']⟩
theorem fl45_0 : fieldIs Try.prog 45 0 0 9 := ⟨_, _, Try.underlying45, rfl, rfl, rfl⟩
theorem fl45_1 : fieldIs Try.prog 45 1 1 3 := ⟨_, _, Try.underlying45, rfl, rfl, rfl⟩
theorem fl45_2 : fieldIs Try.prog 45 2 2 9 := ⟨_, _, Try.underlying45, rfl, rfl, rfl⟩
theorem fl45_3 : fieldIs Try.prog 45 3 3 3 := ⟨_, _, Try.underlying45, rfl, rfl, rfl⟩
theorem sz47 : sizeIs Try.prog 47 9 := by unfold sizeIs; kernel_rfl
theorem ag47 : aggB Try.prog 47 = some true := by kernel_rfl
theorem ze47 : zeroIs Try.prog 47 (.agg #[.int .i64 0, .int .i64 0, .string ⟨#[]⟩, .int .i64 0, .string ⟨#[]⟩, .int .i64 0, .int .i64 0, .slice none 0 0, .bool false]) 9 104 := ⟨by kernel_rfl, rfl, by simp [Value.cells, Value.oneCell']⟩
theorem fl47_0 : fieldIs Try.prog 47 0 0 3 := ⟨_, _, Try.underlying47, rfl, rfl, rfl⟩
theorem fl47_1 : fieldIs Try.prog 47 1 1 3 := ⟨_, _, Try.underlying47, rfl, rfl, rfl⟩
theorem fl47_2 : fieldIs Try.prog 47 2 2 45 := ⟨_, _, Try.underlying47, rfl, rfl, rfl⟩
theorem fl47_3 : fieldIs Try.prog 47 3 6 3 := ⟨_, _, Try.underlying47, rfl, rfl, rfl⟩
theorem fl47_4 : fieldIs Try.prog 47 4 7 35 := ⟨_, _, Try.underlying47, rfl, rfl, rfl⟩
theorem fl47_5 : fieldIs Try.prog 47 5 8 4 := ⟨_, _, Try.underlying47, rfl, rfl, rfl⟩
theorem sz48 : sizeIs Try.prog 48 9 := by unfold sizeIs; kernel_rfl
theorem ag48 : aggB Try.prog 48 = some true := by kernel_rfl
theorem ze48 : zeroIs Try.prog 48 (.agg #[.int .i64 0, .int .i64 0, .string ⟨#[]⟩, .int .i64 0, .string ⟨#[]⟩, .int .i64 0, .int .i64 0, .slice none 0 0, .bool false]) 9 104 := ⟨by kernel_rfl, rfl, by simp [Value.cells, Value.oneCell']⟩
theorem fl48_0 : fieldIs Try.prog 48 0 0 3 := ⟨_, _, Try.underlying48, rfl, rfl, rfl⟩
theorem fl48_1 : fieldIs Try.prog 48 1 1 3 := ⟨_, _, Try.underlying48, rfl, rfl, rfl⟩
theorem fl48_2 : fieldIs Try.prog 48 2 2 45 := ⟨_, _, Try.underlying48, rfl, rfl, rfl⟩
theorem fl48_3 : fieldIs Try.prog 48 3 6 3 := ⟨_, _, Try.underlying48, rfl, rfl, rfl⟩
theorem fl48_4 : fieldIs Try.prog 48 4 7 35 := ⟨_, _, Try.underlying48, rfl, rfl, rfl⟩
theorem fl48_5 : fieldIs Try.prog 48 5 8 4 := ⟨_, _, Try.underlying48, rfl, rfl, rfl⟩
theorem sz58 : sizeIs Try.prog 58 1 := by unfold sizeIs; kernel_rfl
theorem ag58 : aggB Try.prog 58 = some false := by kernel_rfl
theorem ze58 : zeroIs Try.prog 58 (.slice none 0 0) 1 24 := ⟨by kernel_rfl, rfl, by simp [Value.cells, Value.oneCell']⟩
theorem sz62 : sizeIs Try.prog 62 2 := by unfold sizeIs; kernel_rfl
theorem ag62 : aggB Try.prog 62 = some true := by kernel_rfl
theorem ze62 : zeroIs Try.prog 62 (.agg #[.slice none 0 0, .int .i64 0]) 2 32 := ⟨by kernel_rfl, rfl, by simp [Value.cells, Value.oneCell']⟩
theorem fl62_0 : fieldIs Try.prog 62 0 0 23 := ⟨_, _, Try.underlying62, rfl, rfl, rfl⟩
theorem fl62_1 : fieldIs Try.prog 62 1 1 3 := ⟨_, _, Try.underlying62, rfl, rfl, rfl⟩
theorem sz63 : sizeIs Try.prog 63 2 := by unfold sizeIs; kernel_rfl
theorem ag63 : aggB Try.prog 63 = some true := by kernel_rfl
theorem ze63 : zeroIs Try.prog 63 (.agg #[.slice none 0 0, .int .i64 0]) 2 32 := ⟨by kernel_rfl, rfl, by simp [Value.cells, Value.oneCell']⟩
theorem fl63_0 : fieldIs Try.prog 63 0 0 23 := ⟨_, _, Try.underlying63, rfl, rfl, rfl⟩
theorem fl63_1 : fieldIs Try.prog 63 1 1 3 := ⟨_, _, Try.underlying63, rfl, rfl, rfl⟩
theorem sz67 : sizeIs Try.prog 67 1 := by unfold sizeIs; kernel_rfl
theorem ag67 : aggB Try.prog 67 = some false := by kernel_rfl
theorem ze67 : zeroIs Try.prog 67 (.map none) 1 8 := ⟨by kernel_rfl, rfl, by simp [Value.cells, Value.oneCell']⟩
theorem sz76 : sizeIs Try.prog 76 1 := by unfold sizeIs; kernel_rfl
theorem ag76 : aggB Try.prog 76 = some false := by kernel_rfl
theorem ze76 : zeroIs Try.prog 76 (.slice none 0 0) 1 24 := ⟨by kernel_rfl, rfl, by simp [Value.cells, Value.oneCell']⟩
theorem sz93 : sizeIs Try.prog 93 0 := by unfold sizeIs; kernel_rfl
theorem ag93 : aggB Try.prog 93 = some true := by kernel_rfl
theorem ze93 : zeroIs Try.prog 93 (.agg #[]) 0 0 := ⟨by kernel_rfl, rfl, by simp [Value.cells, Value.oneCell']⟩
theorem sz94 : sizeIs Try.prog 94 0 := by unfold sizeIs; kernel_rfl
theorem ag94 : aggB Try.prog 94 = some true := by kernel_rfl
theorem ze94 : zeroIs Try.prog 94 (.agg #[]) 0 0 := ⟨by kernel_rfl, rfl, by simp [Value.cells, Value.oneCell']⟩
theorem fl94_0 : fieldIs Try.prog 94 0 0 93 := ⟨_, _, Try.underlying94, rfl, rfl, rfl⟩
theorem sz96 : sizeIs Try.prog 96 1 := by unfold sizeIs; kernel_rfl
theorem ag96 : aggB Try.prog 96 = some false := by kernel_rfl
theorem ze96 : zeroIs Try.prog 96 (.int .u32 0) 1 4 := ⟨by kernel_rfl, rfl, by simp [Value.cells, Value.oneCell']⟩
theorem sz100 : sizeIs Try.prog 100 1 := by unfold sizeIs; kernel_rfl
theorem ag100 : aggB Try.prog 100 = some false := by kernel_rfl
theorem ze100 : zeroIs Try.prog 100 (.pointer none) 1 8 := ⟨by kernel_rfl, rfl, by simp [Value.cells, Value.oneCell']⟩
end Go.Proofs.Ytbbedhidiffdgaa
