import Derived.Test.YtngfknoddphhaaaAbE
import Derived.Test.YtngfknoddphhaaaProg
import Derived.KernelRfl
namespace Go.Proofs.Ytngfknoddphhaaa
open Go.RowKit
set_option linter.unusedSimpArgs false
set_option linter.unusedVariables false
theorem sz2 : sizeIs Try.prog 2 1 := by unfold sizeIs; kernel_rfl
theorem ag2 : aggB Try.prog 2 = some false := by kernel_rfl
theorem ze2 : zeroIs Try.prog 2 (.int .i64 0) 1 8 := ⟨by kernel_rfl, rfl, by simp [Value.cells, Value.oneCell']⟩
theorem sz3 : sizeIs Try.prog 3 1 := by unfold sizeIs; kernel_rfl
theorem ag3 : aggB Try.prog 3 = some false := by kernel_rfl
theorem ze3 : zeroIs Try.prog 3 (.int .i64 0) 1 8 := ⟨by kernel_rfl, rfl, by simp [Value.cells, Value.oneCell']⟩
theorem sz4 : sizeIs Try.prog 4 1 := by unfold sizeIs; kernel_rfl
theorem ag4 : aggB Try.prog 4 = some false := by kernel_rfl
theorem ze4 : zeroIs Try.prog 4 (.bool false) 1 1 := ⟨by kernel_rfl, rfl, by simp [Value.cells, Value.oneCell']⟩
theorem sz5 : sizeIs Try.prog 5 1 := by unfold sizeIs; kernel_rfl
theorem ag5 : aggB Try.prog 5 = some false := by kernel_rfl
theorem ze5 : zeroIs Try.prog 5 (.int .u8 0) 1 1 := ⟨by kernel_rfl, rfl, by simp [Value.cells, Value.oneCell']⟩
theorem sz9 : sizeIs Try.prog 9 1 := by unfold sizeIs; kernel_rfl
theorem ag9 : aggB Try.prog 9 = some false := by kernel_rfl
theorem ze9 : zeroIs Try.prog 9 (.string ⟨#[]⟩) 1 16 := ⟨by kernel_rfl, rfl, by simp [Value.cells, Value.oneCell']⟩
theorem sz12 : sizeIs Try.prog 12 1 := by unfold sizeIs; kernel_rfl
theorem ag12 : aggB Try.prog 12 = some false := by kernel_rfl
theorem ze12 : zeroIs Try.prog 12 (.int .u64 0) 1 8 := ⟨by kernel_rfl, rfl, by simp [Value.cells, Value.oneCell']⟩
theorem sz13 : sizeIs Try.prog 13 2 := by unfold sizeIs; kernel_rfl
theorem ag13 : aggB Try.prog 13 = some true := by kernel_rfl
theorem ze13 : zeroIs Try.prog 13 (.agg #[.string ⟨#[]⟩, .int .u64 0]) 2 24 := ⟨by kernel_rfl, rfl, by simp [Value.cells, Value.oneCell']⟩
theorem fl13_0 : fieldIs Try.prog 13 0 0 9 := ⟨_, _, Try.underlying13, rfl, rfl, rfl⟩
theorem fl13_1 : fieldIs Try.prog 13 1 1 12 := ⟨_, _, Try.underlying13, rfl, rfl, rfl⟩
theorem sz21 : sizeIs Try.prog 21 1 := by unfold sizeIs; kernel_rfl
theorem ag21 : aggB Try.prog 21 = some false := by kernel_rfl
theorem ze21 : zeroIs Try.prog 21 (.int .i32 0) 1 4 := ⟨by kernel_rfl, rfl, by simp [Value.cells, Value.oneCell']⟩
theorem sz22 : sizeIs Try.prog 22 1 := by unfold sizeIs; kernel_rfl
theorem ag22 : aggB Try.prog 22 = some false := by kernel_rfl
theorem ze22 : zeroIs Try.prog 22 (.slice none 0 0) 1 24 := ⟨by kernel_rfl, rfl, by simp [Value.cells, Value.oneCell']⟩
theorem sz23 : sizeIs Try.prog 23 1 := by unfold sizeIs; kernel_rfl
theorem ag23 : aggB Try.prog 23 = some false := by kernel_rfl
theorem ze23 : zeroIs Try.prog 23 (.pointer none) 1 8 := ⟨by kernel_rfl, rfl, by simp [Value.cells, Value.oneCell']⟩
theorem sz25 : sizeIs Try.prog 25 4 := by unfold sizeIs; kernel_rfl
theorem ag25 : aggB Try.prog 25 = some true := by kernel_rfl
theorem ze25 : zeroIs Try.prog 25 (.agg #[.string ⟨#[]⟩, .int .i64 0, .string ⟨#[]⟩, .int .i64 0]) 4 48 := ⟨by kernel_rfl, rfl, by simp [Value.cells, Value.oneCell']⟩
theorem fl25_0 : fieldIs Try.prog 25 0 0 9 := ⟨_, _, Try.underlying25, rfl, rfl, rfl⟩
theorem fl25_1 : fieldIs Try.prog 25 1 1 3 := ⟨_, _, Try.underlying25, rfl, rfl, rfl⟩
theorem fl25_2 : fieldIs Try.prog 25 2 2 9 := ⟨_, _, Try.underlying25, rfl, rfl, rfl⟩
theorem fl25_3 : fieldIs Try.prog 25 3 3 3 := ⟨_, _, Try.underlying25, rfl, rfl, rfl⟩
theorem sz26 : sizeIs Try.prog 26 4 := by unfold sizeIs; kernel_rfl
theorem ag26 : aggB Try.prog 26 = some true := by kernel_rfl
theorem ze26 : zeroIs Try.prog 26 (.agg #[.string ⟨#[]⟩, .int .i64 0, .string ⟨#[]⟩, .int .i64 0]) 4 48 := ⟨by kernel_rfl, rfl, by simp [Value.cells, Value.oneCell']⟩
theorem fl26_0 : fieldIs Try.prog 26 0 0 9 := ⟨_, _, Try.underlying26, rfl, rfl, rfl⟩
theorem fl26_1 : fieldIs Try.prog 26 1 1 3 := ⟨_, _, Try.underlying26, rfl, rfl, rfl⟩
theorem fl26_2 : fieldIs Try.prog 26 2 2 9 := ⟨_, _, Try.underlying26, rfl, rfl, rfl⟩
theorem fl26_3 : fieldIs Try.prog 26 3 3 3 := ⟨_, _, Try.underlying26, rfl, rfl, rfl⟩
theorem sz27 : sizeIs Try.prog 27 1 := by unfold sizeIs; kernel_rfl
theorem ag27 : aggB Try.prog 27 = some false := by kernel_rfl
theorem ze27 : zeroIs Try.prog 27 (.slice none 0 0) 1 24 := ⟨by kernel_rfl, rfl, by simp [Value.cells, Value.oneCell']⟩
theorem sz28 : sizeIs Try.prog 28 11 := by unfold sizeIs; kernel_rfl
theorem ag28 : aggB Try.prog 28 = some true := by kernel_rfl
theorem ze28 : zeroIs Try.prog 28 (.agg #[.int .i64 0, .string ⟨#[]⟩, .int .i64 0, .string ⟨#[]⟩, .int .i64 0, .int .i64 0, .int .i64 0, .int .i64 0, .int .i64 0, .int .i64 0, .slice none 0 0]) 11 120 := ⟨by kernel_rfl, rfl, by simp [Value.cells, Value.oneCell']⟩
theorem fl28_0 : fieldIs Try.prog 28 0 0 3 := ⟨_, _, Try.underlying28, rfl, rfl, rfl⟩
theorem fl28_1 : fieldIs Try.prog 28 1 1 26 := ⟨_, _, Try.underlying28, rfl, rfl, rfl⟩
theorem fl28_2 : fieldIs Try.prog 28 2 5 3 := ⟨_, _, Try.underlying28, rfl, rfl, rfl⟩
theorem fl28_3 : fieldIs Try.prog 28 3 6 3 := ⟨_, _, Try.underlying28, rfl, rfl, rfl⟩
theorem fl28_4 : fieldIs Try.prog 28 4 7 3 := ⟨_, _, Try.underlying28, rfl, rfl, rfl⟩
theorem fl28_5 : fieldIs Try.prog 28 5 8 3 := ⟨_, _, Try.underlying28, rfl, rfl, rfl⟩
theorem fl28_6 : fieldIs Try.prog 28 6 9 3 := ⟨_, _, Try.underlying28, rfl, rfl, rfl⟩
theorem fl28_7 : fieldIs Try.prog 28 7 10 27 := ⟨_, _, Try.underlying28, rfl, rfl, rfl⟩
theorem sz29 : sizeIs Try.prog 29 11 := by unfold sizeIs; kernel_rfl
theorem ag29 : aggB Try.prog 29 = some true := by kernel_rfl
theorem ze29 : zeroIs Try.prog 29 (.agg #[.int .i64 0, .string ⟨#[]⟩, .int .i64 0, .string ⟨#[]⟩, .int .i64 0, .int .i64 0, .int .i64 0, .int .i64 0, .int .i64 0, .int .i64 0, .slice none 0 0]) 11 120 := ⟨by kernel_rfl, rfl, by simp [Value.cells, Value.oneCell']⟩
theorem fl29_0 : fieldIs Try.prog 29 0 0 3 := ⟨_, _, Try.underlying29, rfl, rfl, rfl⟩
theorem fl29_1 : fieldIs Try.prog 29 1 1 26 := ⟨_, _, Try.underlying29, rfl, rfl, rfl⟩
theorem fl29_2 : fieldIs Try.prog 29 2 5 3 := ⟨_, _, Try.underlying29, rfl, rfl, rfl⟩
theorem fl29_3 : fieldIs Try.prog 29 3 6 3 := ⟨_, _, Try.underlying29, rfl, rfl, rfl⟩
theorem fl29_4 : fieldIs Try.prog 29 4 7 3 := ⟨_, _, Try.underlying29, rfl, rfl, rfl⟩
theorem fl29_5 : fieldIs Try.prog 29 5 8 3 := ⟨_, _, Try.underlying29, rfl, rfl, rfl⟩
theorem fl29_6 : fieldIs Try.prog 29 6 9 3 := ⟨_, _, Try.underlying29, rfl, rfl, rfl⟩
theorem fl29_7 : fieldIs Try.prog 29 7 10 27 := ⟨_, _, Try.underlying29, rfl, rfl, rfl⟩
theorem sz32 : sizeIs Try.prog 32 3 := by unfold sizeIs; kernel_rfl
theorem ag32 : aggB Try.prog 32 = some true := by kernel_rfl
theorem ze32 : zeroIs Try.prog 32 (.agg #[.int .i64 0, .int .i64 0, .int .i64 0]) 3 24 := ⟨by kernel_rfl, rfl, by simp [Value.cells, Value.oneCell']⟩
theorem fl32_0 : fieldIs Try.prog 32 0 0 3 := ⟨_, _, Try.underlying32, rfl, rfl, rfl⟩
theorem fl32_1 : fieldIs Try.prog 32 1 1 3 := ⟨_, _, Try.underlying32, rfl, rfl, rfl⟩
theorem fl32_2 : fieldIs Try.prog 32 2 2 3 := ⟨_, _, Try.underlying32, rfl, rfl, rfl⟩
theorem sz33 : sizeIs Try.prog 33 3 := by unfold sizeIs; kernel_rfl
theorem ag33 : aggB Try.prog 33 = some true := by kernel_rfl
theorem ze33 : zeroIs Try.prog 33 (.agg #[.int .i64 0, .int .i64 0, .int .i64 0]) 3 24 := ⟨by kernel_rfl, rfl, by simp [Value.cells, Value.oneCell']⟩
theorem fl33_0 : fieldIs Try.prog 33 0 0 3 := ⟨_, _, Try.underlying33, rfl, rfl, rfl⟩
theorem fl33_1 : fieldIs Try.prog 33 1 1 3 := ⟨_, _, Try.underlying33, rfl, rfl, rfl⟩
theorem fl33_2 : fieldIs Try.prog 33 2 2 3 := ⟨_, _, Try.underlying33, rfl, rfl, rfl⟩
theorem sz35 : sizeIs Try.prog 35 5 := by unfold sizeIs; kernel_rfl
theorem ag35 : aggB Try.prog 35 = some true := by kernel_rfl
theorem ze35 : zeroIs Try.prog 35 (.agg #[.int .i64 0, .int .i64 0, .int .i64 0, .int .i64 0, .int .i64 0]) 5 40 := ⟨by kernel_rfl, rfl, by simp [Value.cells, Value.oneCell']⟩
theorem fl35_0 : fieldIs Try.prog 35 0 0 33 := ⟨_, _, Try.underlying35, rfl, rfl, rfl⟩
theorem fl35_1 : fieldIs Try.prog 35 1 3 3 := ⟨_, _, Try.underlying35, rfl, rfl, rfl⟩
theorem fl35_2 : fieldIs Try.prog 35 2 4 3 := ⟨_, _, Try.underlying35, rfl, rfl, rfl⟩
theorem sz36 : sizeIs Try.prog 36 5 := by unfold sizeIs; kernel_rfl
theorem ag36 : aggB Try.prog 36 = some true := by kernel_rfl
theorem ze36 : zeroIs Try.prog 36 (.agg #[.int .i64 0, .int .i64 0, .int .i64 0, .int .i64 0, .int .i64 0]) 5 40 := ⟨by kernel_rfl, rfl, by simp [Value.cells, Value.oneCell']⟩
theorem fl36_0 : fieldIs Try.prog 36 0 0 33 := ⟨_, _, Try.underlying36, rfl, rfl, rfl⟩
theorem fl36_1 : fieldIs Try.prog 36 1 3 3 := ⟨_, _, Try.underlying36, rfl, rfl, rfl⟩
theorem fl36_2 : fieldIs Try.prog 36 2 4 3 := ⟨_, _, Try.underlying36, rfl, rfl, rfl⟩
theorem sz37 : sizeIs Try.prog 37 1 := by unfold sizeIs; kernel_rfl
theorem ag37 : aggB Try.prog 37 = some false := by kernel_rfl
theorem ze37 : zeroIs Try.prog 37 (.int .i64 0) 1 8 := ⟨by kernel_rfl, rfl, by simp [Value.cells, Value.oneCell']⟩
theorem sz48 : sizeIs Try.prog 48 1 := by unfold sizeIs; kernel_rfl
theorem ag48 : aggB Try.prog 48 = some false := by kernel_rfl
theorem ze48 : zeroIs Try.prog 48 (.slice none 0 0) 1 24 := ⟨by kernel_rfl, rfl, by simp [Value.cells, Value.oneCell']⟩
theorem sz57 : sizeIs Try.prog 57 1 := by unfold sizeIs; kernel_rfl
theorem ag57 : aggB Try.prog 57 = some false := by kernel_rfl
theorem ze57 : zeroIs Try.prog 57 (.slice none 0 0) 1 24 := ⟨by kernel_rfl, rfl, by simp [Value.cells, Value.oneCell']⟩
theorem sz59 : sizeIs Try.prog 59 1 := by unfold sizeIs; kernel_rfl
theorem ag59 : aggB Try.prog 59 = some false := by kernel_rfl
theorem ze59 : zeroIs Try.prog 59 (.slice none 0 0) 1 24 := ⟨by kernel_rfl, rfl, by simp [Value.cells, Value.oneCell']⟩
theorem sz63 : sizeIs Try.prog 63 2 := by unfold sizeIs; kernel_rfl
theorem ag63 : aggB Try.prog 63 = some true := by kernel_rfl
theorem ze63 : zeroIs Try.prog 63 (.agg #[.slice none 0 0, .int .i64 0]) 2 32 := ⟨by kernel_rfl, rfl, by simp [Value.cells, Value.oneCell']⟩
theorem fl63_0 : fieldIs Try.prog 63 0 0 22 := ⟨_, _, Try.underlying63, rfl, rfl, rfl⟩
theorem fl63_1 : fieldIs Try.prog 63 1 1 3 := ⟨_, _, Try.underlying63, rfl, rfl, rfl⟩
theorem sz64 : sizeIs Try.prog 64 2 := by unfold sizeIs; kernel_rfl
theorem ag64 : aggB Try.prog 64 = some true := by kernel_rfl
theorem ze64 : zeroIs Try.prog 64 (.agg #[.slice none 0 0, .int .i64 0]) 2 32 := ⟨by kernel_rfl, rfl, by simp [Value.cells, Value.oneCell']⟩
theorem fl64_0 : fieldIs Try.prog 64 0 0 22 := ⟨_, _, Try.underlying64, rfl, rfl, rfl⟩
theorem fl64_1 : fieldIs Try.prog 64 1 1 3 := ⟨_, _, Try.underlying64, rfl, rfl, rfl⟩
theorem sz68 : sizeIs Try.prog 68 1 := by unfold sizeIs; kernel_rfl
theorem ag68 : aggB Try.prog 68 = some false := by kernel_rfl
theorem ze68 : zeroIs Try.prog 68 (.slice none 0 0) 1 24 := ⟨by kernel_rfl, rfl, by simp [Value.cells, Value.oneCell']⟩
theorem sz77 : sizeIs Try.prog 77 1 := by unfold sizeIs; kernel_rfl
theorem ag77 : aggB Try.prog 77 = some false := by kernel_rfl
theorem ze77 : zeroIs Try.prog 77 (.map none) 1 8 := ⟨by kernel_rfl, rfl, by simp [Value.cells, Value.oneCell']⟩
theorem sz78 : sizeIs Try.prog 78 1 := by unfold sizeIs; kernel_rfl
theorem ag78 : aggB Try.prog 78 = some false := by kernel_rfl
theorem ze78 : zeroIs Try.prog 78 (.map none) 1 8 := ⟨by kernel_rfl, rfl, by simp [Value.cells, Value.oneCell']⟩
theorem sz79 : sizeIs Try.prog 79 5 := by unfold sizeIs; kernel_rfl
theorem ag79 : aggB Try.prog 79 = some true := by kernel_rfl
theorem ze79 : zeroIs Try.prog 79 (.agg #[.string ⟨#[]⟩, .int .i64 0, .string ⟨#[]⟩, .int .i64 0, .int .i64 0]) 5 56 := ⟨by kernel_rfl, rfl, by simp [Value.cells, Value.oneCell']⟩
theorem fl79_0 : fieldIs Try.prog 79 0 0 26 := ⟨_, _, Try.underlying79, rfl, rfl, rfl⟩
theorem fl79_1 : fieldIs Try.prog 79 1 4 3 := ⟨_, _, Try.underlying79, rfl, rfl, rfl⟩
theorem sz80 : sizeIs Try.prog 80 5 := by unfold sizeIs; kernel_rfl
theorem ag80 : aggB Try.prog 80 = some true := by kernel_rfl
theorem ze80 : zeroIs Try.prog 80 (.agg #[.string ⟨#[]⟩, .int .i64 0, .string ⟨#[]⟩, .int .i64 0, .int .i64 0]) 5 56 := ⟨by kernel_rfl, rfl, by simp [Value.cells, Value.oneCell']⟩
theorem fl80_0 : fieldIs Try.prog 80 0 0 26 := ⟨_, _, Try.underlying80, rfl, rfl, rfl⟩
theorem fl80_1 : fieldIs Try.prog 80 1 4 3 := ⟨_, _, Try.underlying80, rfl, rfl, rfl⟩
theorem sz81 : sizeIs Try.prog 81 1 := by unfold sizeIs; kernel_rfl
theorem ag81 : aggB Try.prog 81 = some false := by kernel_rfl
theorem ze81 : zeroIs Try.prog 81 (.slice none 0 0) 1 24 := ⟨by kernel_rfl, rfl, by simp [Value.cells, Value.oneCell']⟩
theorem sz95 : sizeIs Try.prog 95 0 := by unfold sizeIs; kernel_rfl
theorem ag95 : aggB Try.prog 95 = some true := by kernel_rfl
theorem ze95 : zeroIs Try.prog 95 (.agg #[]) 0 0 := ⟨by kernel_rfl, rfl, by simp [Value.cells, Value.oneCell']⟩
theorem sz96 : sizeIs Try.prog 96 0 := by unfold sizeIs; kernel_rfl
theorem ag96 : aggB Try.prog 96 = some true := by kernel_rfl
theorem ze96 : zeroIs Try.prog 96 (.agg #[]) 0 0 := ⟨by kernel_rfl, rfl, by simp [Value.cells, Value.oneCell']⟩
theorem fl96_0 : fieldIs Try.prog 96 0 0 95 := ⟨_, _, Try.underlying96, rfl, rfl, rfl⟩
theorem sz98 : sizeIs Try.prog 98 1 := by unfold sizeIs; kernel_rfl
theorem ag98 : aggB Try.prog 98 = some false := by kernel_rfl
theorem ze98 : zeroIs Try.prog 98 (.int .u32 0) 1 4 := ⟨by kernel_rfl, rfl, by simp [Value.cells, Value.oneCell']⟩
theorem sz102 : sizeIs Try.prog 102 1 := by unfold sizeIs; kernel_rfl
theorem ag102 : aggB Try.prog 102 = some false := by kernel_rfl
theorem ze102 : zeroIs Try.prog 102 (.pointer none) 1 8 := ⟨by kernel_rfl, rfl, by simp [Value.cells, Value.oneCell']⟩
end Go.Proofs.Ytngfknoddphhaaa
