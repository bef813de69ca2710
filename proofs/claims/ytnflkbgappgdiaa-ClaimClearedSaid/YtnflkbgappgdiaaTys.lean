import Derived.Test.YtnflkbgappgdiaaAbE
import Derived.Test.YtnflkbgappgdiaaProg
import Derived.KernelRfl
namespace Go.Proofs.Ytnflkbgappgdiaa
open Go.RowKit
set_option linter.unusedSimpArgs false
set_option linter.unusedVariables false
theorem sz2 : sizeIs Try.prog 2 1 := by unfold sizeIs; kernel_rfl
theorem ag2 : aggB Try.prog 2 = some false := by kernel_rfl
theorem ze2 : zeroIs Try.prog 2 (.int .i64 0) 1 8 := ⟨by kernel_rfl, rfl, by simp [Value.cells, Value.oneCell']⟩
theorem sz3 : sizeIs Try.prog 3 1 := by unfold sizeIs; kernel_rfl
theorem ag3 : aggB Try.prog 3 = some false := by kernel_rfl
theorem ze3 : zeroIs Try.prog 3 (.int .i64 0) 1 8 := ⟨by kernel_rfl, rfl, by simp [Value.cells, Value.oneCell']⟩
theorem sz4 : sizeIs Try.prog 4 1 := by unfold sizeIs; kernel_rfl
theorem ag4 : aggB Try.prog 4 = some false := by kernel_rfl
theorem ze4 : zeroIs Try.prog 4 (.bool false) 1 1 := ⟨by kernel_rfl, rfl, by simp [Value.cells, Value.oneCell']⟩
theorem sz5 : sizeIs Try.prog 5 1 := by unfold sizeIs; kernel_rfl
theorem ag5 : aggB Try.prog 5 = some false := by kernel_rfl
theorem ze5 : zeroIs Try.prog 5 (.int .u8 0) 1 1 := ⟨by kernel_rfl, rfl, by simp [Value.cells, Value.oneCell']⟩
theorem sz9 : sizeIs Try.prog 9 1 := by unfold sizeIs; kernel_rfl
theorem ag9 : aggB Try.prog 9 = some false := by kernel_rfl
theorem ze9 : zeroIs Try.prog 9 (.string ⟨#[]⟩) 1 16 := ⟨by kernel_rfl, rfl, by simp [Value.cells, Value.oneCell']⟩
theorem sz12 : sizeIs Try.prog 12 1 := by unfold sizeIs; kernel_rfl
theorem ag12 : aggB Try.prog 12 = some false := by kernel_rfl
theorem ze12 : zeroIs Try.prog 12 (.int .u64 0) 1 8 := ⟨by kernel_rfl, rfl, by simp [Value.cells, Value.oneCell']⟩
theorem sz13 : sizeIs Try.prog 13 2 := by unfold sizeIs; kernel_rfl
theorem ag13 : aggB Try.prog 13 = some true := by kernel_rfl
theorem ze13 : zeroIs Try.prog 13 (.agg #[.string ⟨#[]⟩, .int .u64 0]) 2 24 := ⟨by kernel_rfl, rfl, by simp [Value.cells, Value.oneCell']⟩
theorem fl13_0 : fieldIs Try.prog 13 0 0 9 := ⟨_, _, Try.underlying13, rfl, rfl, rfl⟩
theorem fl13_1 : fieldIs Try.prog 13 1 1 12 := ⟨_, _, Try.underlying13, rfl, rfl, rfl⟩
theorem sz21 : sizeIs Try.prog 21 1 := by unfold sizeIs; kernel_rfl
theorem ag21 : aggB Try.prog 21 = some false := by kernel_rfl
theorem ze21 : zeroIs Try.prog 21 (.int .i32 0) 1 4 := ⟨by kernel_rfl, rfl, by simp [Value.cells, Value.oneCell']⟩
theorem sz22 : sizeIs Try.prog 22 1 := by unfold sizeIs; kernel_rfl
theorem ag22 : aggB Try.prog 22 = some false := by kernel_rfl
theorem ze22 : zeroIs Try.prog 22 (.slice none 0 0) 1 24 := ⟨by kernel_rfl, rfl, by simp [Value.cells, Value.oneCell']⟩
theorem sz23 : sizeIs Try.prog 23 1 := by unfold sizeIs; kernel_rfl
theorem ag23 : aggB Try.prog 23 = some false := by kernel_rfl
theorem ze23 : zeroIs Try.prog 23 (.slice none 0 0) 1 24 := ⟨by kernel_rfl, rfl, by simp [Value.cells, Value.oneCell']⟩
theorem sz24 : sizeIs Try.prog 24 2 := by unfold sizeIs; kernel_rfl
theorem ag24 : aggB Try.prog 24 = some true := by kernel_rfl
theorem ze24 : zeroIs Try.prog 24 (.agg #[.string ⟨#[]⟩, .int .i64 0]) 2 24 := ⟨by kernel_rfl, rfl, by simp [Value.cells, Value.oneCell']⟩
theorem fl24_0 : fieldIs Try.prog 24 0 0 9 := ⟨_, _, Try.underlying24, rfl, rfl, rfl⟩
theorem fl24_1 : fieldIs Try.prog 24 1 1 3 := ⟨_, _, Try.underlying24, rfl, rfl, rfl⟩
theorem sz25 : sizeIs Try.prog 25 2 := by unfold sizeIs; kernel_rfl
theorem ag25 : aggB Try.prog 25 = some true := by kernel_rfl
theorem ze25 : zeroIs Try.prog 25 (.agg #[.string ⟨#[]⟩, .int .i64 0]) 2 24 := ⟨by kernel_rfl, rfl, by simp [Value.cells, Value.oneCell']⟩
theorem fl25_0 : fieldIs Try.prog 25 0 0 9 := ⟨_, _, Try.underlying25, rfl, rfl, rfl⟩
theorem fl25_1 : fieldIs Try.prog 25 1 1 3 := ⟨_, _, Try.underlying25, rfl, rfl, rfl⟩
theorem sz26 : sizeIs Try.prog 26 1 := by unfold sizeIs; kernel_rfl
theorem ag26 : aggB Try.prog 26 = some false := by kernel_rfl
theorem ze26 : zeroIs Try.prog 26 (.pointer none) 1 8 := ⟨by kernel_rfl, rfl, by simp [Value.cells, Value.oneCell']⟩
theorem sz31 : sizeIs Try.prog 31 1 := by unfold sizeIs; kernel_rfl
theorem ag31 : aggB Try.prog 31 = some false := by kernel_rfl
theorem ze31 : zeroIs Try.prog 31 (.slice none 0 0) 1 24 := ⟨by kernel_rfl, rfl, by simp [Value.cells, Value.oneCell']⟩
theorem sz33 : sizeIs Try.prog 33 1 := by unfold sizeIs; kernel_rfl
theorem ag33 : aggB Try.prog 33 = some false := by kernel_rfl
theorem ze33 : zeroIs Try.prog 33 (.slice none 0 0) 1 24 := ⟨by kernel_rfl, rfl, by simp [Value.cells, Value.oneCell']⟩
theorem sz34 : sizeIs Try.prog 34 1 := by unfold sizeIs; kernel_rfl
theorem ag34 : aggB Try.prog 34 = some false := by kernel_rfl
theorem ze34 : zeroIs Try.prog 34 (.slice none 0 0) 1 24 := ⟨by kernel_rfl, rfl, by simp [Value.cells, Value.oneCell']⟩
theorem sz35 : sizeIs Try.prog 35 1 := by unfold sizeIs; kernel_rfl
theorem ag35 : aggB Try.prog 35 = some false := by kernel_rfl
theorem ze35 : zeroIs Try.prog 35 (.int .i64 0) 1 8 := ⟨by kernel_rfl, rfl, by simp [Value.cells, Value.oneCell']⟩
theorem sz42 : sizeIs Try.prog 42 2 := by unfold sizeIs; kernel_rfl
theorem ag42 : aggB Try.prog 42 = some true := by kernel_rfl
theorem ze42 : zeroIs Try.prog 42 (.agg #[.string ⟨#[]⟩, .int .i64 0]) 2 24 := ⟨by kernel_rfl, rfl, by simp [Value.cells, Value.oneCell']⟩
theorem fl42_0 : fieldIs Try.prog 42 0 0 9 := ⟨_, _, Try.underlying42, rfl, rfl, rfl⟩
theorem fl42_1 : fieldIs Try.prog 42 1 1 3 := ⟨_, _, Try.underlying42, rfl, rfl, rfl⟩
theorem sz43 : sizeIs Try.prog 43 2 := by unfold sizeIs; kernel_rfl
theorem ag43 : aggB Try.prog 43 = some true := by kernel_rfl
theorem ze43 : zeroIs Try.prog 43 (.agg #[.string ⟨#[]⟩, .int .i64 0]) 2 24 := ⟨by kernel_rfl, rfl, by simp [Value.cells, Value.oneCell']⟩
theorem fl43_0 : fieldIs Try.prog 43 0 0 9 := ⟨_, _, Try.underlying43, rfl, rfl, rfl⟩
theorem fl43_1 : fieldIs Try.prog 43 1 1 3 := ⟨_, _, Try.underlying43, rfl, rfl, rfl⟩
theorem sz49 : sizeIs Try.prog 49 1 := by unfold sizeIs; kernel_rfl
theorem ag49 : aggB Try.prog 49 = some false := by kernel_rfl
theorem ze49 : zeroIs Try.prog 49 (.slice none 0 0) 1 24 := ⟨by kernel_rfl, rfl, by simp [Value.cells, Value.oneCell']⟩
theorem sz52 : sizeIs Try.prog 52 3 := by unfold sizeIs; kernel_rfl
theorem ag52 : aggB Try.prog 52 = some true := by kernel_rfl
theorem ze52 : zeroIs Try.prog 52 (.agg #[.string ⟨#[]⟩, .string ⟨#[]⟩, .int .i64 0]) 3 40 := ⟨by kernel_rfl, rfl, by simp [Value.cells, Value.oneCell']⟩
theorem fl52_0 : fieldIs Try.prog 52 0 0 9 := ⟨_, _, Try.underlying52, rfl, rfl, rfl⟩
theorem fl52_1 : fieldIs Try.prog 52 1 1 9 := ⟨_, _, Try.underlying52, rfl, rfl, rfl⟩
theorem fl52_2 : fieldIs Try.prog 52 2 2 3 := ⟨_, _, Try.underlying52, rfl, rfl, rfl⟩
theorem sz53 : sizeIs Try.prog 53 3 := by unfold sizeIs; kernel_rfl
theorem ag53 : aggB Try.prog 53 = some true := by kernel_rfl
theorem ze53 : zeroIs Try.prog 53 (.agg #[.string ⟨#[]⟩, .string ⟨#[]⟩, .int .i64 0]) 3 40 := ⟨by kernel_rfl, rfl, by simp [Value.cells, Value.oneCell']⟩
theorem fl53_0 : fieldIs Try.prog 53 0 0 9 := ⟨_, _, Try.underlying53, rfl, rfl, rfl⟩
theorem fl53_1 : fieldIs Try.prog 53 1 1 9 := ⟨_, _, Try.underlying53, rfl, rfl, rfl⟩
theorem fl53_2 : fieldIs Try.prog 53 2 2 3 := ⟨_, _, Try.underlying53, rfl, rfl, rfl⟩
theorem sz56 : sizeIs Try.prog 56 1 := by unfold sizeIs; kernel_rfl
theorem ag56 : aggB Try.prog 56 = some false := by kernel_rfl
theorem ze56 : zeroIs Try.prog 56 (.slice none 0 0) 1 24 := ⟨by kernel_rfl, rfl, by simp [Value.cells, Value.oneCell']⟩
theorem sz61 : sizeIs Try.prog 61 8 := by unfold sizeIs; kernel_rfl
theorem ag61 : aggB Try.prog 61 = some true := by kernel_rfl
theorem ze61 : zeroIs Try.prog 61 (.agg #[.int .i64 0, .int .i64 0, .int .i64 0, .int .i64 0, .int .i64 0, .int .i64 0, .int .i64 0, .int .i64 0]) 8 64 := ⟨by kernel_rfl, rfl, by simp [Value.cells, Value.oneCell']⟩
theorem sz62 : sizeIs Try.prog 62 2 := by unfold sizeIs; kernel_rfl
theorem ag62 : aggB Try.prog 62 = some true := by kernel_rfl
theorem ze62 : zeroIs Try.prog 62 (.agg #[.slice none 0 0, .int .i64 0]) 2 32 := ⟨by kernel_rfl, rfl, by simp [Value.cells, Value.oneCell']⟩
theorem fl62_0 : fieldIs Try.prog 62 0 0 23 := ⟨_, _, Try.underlying62, rfl, rfl, rfl⟩
theorem fl62_1 : fieldIs Try.prog 62 1 1 3 := ⟨_, _, Try.underlying62, rfl, rfl, rfl⟩
theorem sz63 : sizeIs Try.prog 63 2 := by unfold sizeIs; kernel_rfl
theorem ag63 : aggB Try.prog 63 = some true := by kernel_rfl
theorem ze63 : zeroIs Try.prog 63 (.agg #[.slice none 0 0, .int .i64 0]) 2 32 := ⟨by kernel_rfl, rfl, by simp [Value.cells, Value.oneCell']⟩
theorem fl63_0 : fieldIs Try.prog 63 0 0 23 := ⟨_, _, Try.underlying63, rfl, rfl, rfl⟩
theorem fl63_1 : fieldIs Try.prog 63 1 1 3 := ⟨_, _, Try.underlying63, rfl, rfl, rfl⟩
theorem sz76 : sizeIs Try.prog 76 1 := by unfold sizeIs; kernel_rfl
theorem ag76 : aggB Try.prog 76 = some false := by kernel_rfl
theorem ze76 : zeroIs Try.prog 76 (.int .u64 0) 1 8 := ⟨by kernel_rfl, rfl, by simp [Value.cells, Value.oneCell']⟩
theorem sz78 : sizeIs Try.prog 78 3 := by unfold sizeIs; kernel_rfl
theorem ag78 : aggB Try.prog 78 = some true := by kernel_rfl
theorem ze78 : zeroIs Try.prog 78 (.agg #[.pointer none, .pointer none, .int .u64 0]) 3 24 := ⟨by kernel_rfl, rfl, by simp [Value.cells, Value.oneCell']⟩
theorem fl78_0 : fieldIs Try.prog 78 0 0 17 := ⟨_, _, Try.underlying78, rfl, rfl, rfl⟩
theorem fl78_1 : fieldIs Try.prog 78 1 1 75 := ⟨_, _, Try.underlying78, rfl, rfl, rfl⟩
theorem fl78_2 : fieldIs Try.prog 78 2 2 76 := ⟨_, _, Try.underlying78, rfl, rfl, rfl⟩
theorem sz83 : sizeIs Try.prog 83 2 := by unfold sizeIs; kernel_rfl
theorem ag83 : aggB Try.prog 83 = some true := by kernel_rfl
theorem ze83 : zeroIs Try.prog 83 (.agg #[.nilFunc, .nilFunc]) 2 16 := ⟨by kernel_rfl, rfl, by simp [Value.cells, Value.oneCell']⟩
theorem fl83_0 : fieldIs Try.prog 83 0 0 68 := ⟨_, _, Try.underlying83, rfl, rfl, rfl⟩
theorem fl83_1 : fieldIs Try.prog 83 1 1 80 := ⟨_, _, Try.underlying83, rfl, rfl, rfl⟩
theorem sz84 : sizeIs Try.prog 84 2 := by unfold sizeIs; kernel_rfl
theorem ag84 : aggB Try.prog 84 = some true := by kernel_rfl
theorem ze84 : zeroIs Try.prog 84 (.agg #[.nilFunc, .nilFunc]) 2 16 := ⟨by kernel_rfl, rfl, by simp [Value.cells, Value.oneCell']⟩
theorem fl84_0 : fieldIs Try.prog 84 0 0 68 := ⟨_, _, Try.underlying84, rfl, rfl, rfl⟩
theorem fl84_1 : fieldIs Try.prog 84 1 1 80 := ⟨_, _, Try.underlying84, rfl, rfl, rfl⟩
theorem sz86 : sizeIs Try.prog 86 1 := by unfold sizeIs; kernel_rfl
theorem ag86 : aggB Try.prog 86 = some true := by kernel_rfl
theorem ze86 : zeroIs Try.prog 86 (.agg #[.pointer none]) 1 8 := ⟨by kernel_rfl, rfl, by simp [Value.cells, Value.oneCell']⟩
theorem fl86_0 : fieldIs Try.prog 86 0 0 17 := ⟨_, _, Try.underlying86, rfl, rfl, rfl⟩
theorem sz87 : sizeIs Try.prog 87 1 := by unfold sizeIs; kernel_rfl
theorem ag87 : aggB Try.prog 87 = some false := by kernel_rfl
theorem ze87 : zeroIs Try.prog 87 (.pointer none) 1 8 := ⟨by kernel_rfl, rfl, by simp [Value.cells, Value.oneCell']⟩
theorem sz90 : sizeIs Try.prog 90 1 := by unfold sizeIs; kernel_rfl
theorem ag90 : aggB Try.prog 90 = some false := by kernel_rfl
theorem ze90 : zeroIs Try.prog 90 (.int .u64 0) 1 8 := ⟨by kernel_rfl, rfl, by simp [Value.cells, Value.oneCell']⟩
theorem sz94 : sizeIs Try.prog 94 0 := by unfold sizeIs; kernel_rfl
theorem ag94 : aggB Try.prog 94 = some true := by kernel_rfl
theorem ze94 : zeroIs Try.prog 94 (.agg #[]) 0 0 := ⟨by kernel_rfl, rfl, by simp [Value.cells, Value.oneCell']⟩
theorem sz95 : sizeIs Try.prog 95 0 := by unfold sizeIs; kernel_rfl
theorem ag95 : aggB Try.prog 95 = some true := by kernel_rfl
theorem ze95 : zeroIs Try.prog 95 (.agg #[]) 0 0 := ⟨by kernel_rfl, rfl, by simp [Value.cells, Value.oneCell']⟩
theorem fl95_0 : fieldIs Try.prog 95 0 0 94 := ⟨_, _, Try.underlying95, rfl, rfl, rfl⟩
theorem sz97 : sizeIs Try.prog 97 1 := by unfold sizeIs; kernel_rfl
theorem ag97 : aggB Try.prog 97 = some false := by kernel_rfl
theorem ze97 : zeroIs Try.prog 97 (.int .u32 0) 1 4 := ⟨by kernel_rfl, rfl, by simp [Value.cells, Value.oneCell']⟩
theorem sz101 : sizeIs Try.prog 101 1 := by unfold sizeIs; kernel_rfl
theorem ag101 : aggB Try.prog 101 = some false := by kernel_rfl
theorem ze101 : zeroIs Try.prog 101 (.pointer none) 1 8 := ⟨by kernel_rfl, rfl, by simp [Value.cells, Value.oneCell']⟩
theorem sz107 : sizeIs Try.prog 107 2 := by unfold sizeIs; kernel_rfl
theorem ag107 : aggB Try.prog 107 = some true := by kernel_rfl
theorem ze107 : zeroIs Try.prog 107 (.agg #[.string ⟨#[]⟩, .int .u8 0]) 2 24 := ⟨by kernel_rfl, rfl, by simp [Value.cells, Value.oneCell']⟩
theorem fl107_0 : fieldIs Try.prog 107 0 0 9 := ⟨_, _, Try.underlying107, rfl, rfl, rfl⟩
theorem fl107_1 : fieldIs Try.prog 107 1 1 99 := ⟨_, _, Try.underlying107, rfl, rfl, rfl⟩
end Go.Proofs.Ytnflkbgappgdiaa
