import Derived.Test.YtjgbbffcjbmjmaaAbE
import Derived.Test.YtjgbbffcjbmjmaaProg
import Derived.KernelRfl
namespace Go.Proofs.Ytjgbbffcjbmjmaa
open Go.RowKit
set_option linter.unusedSimpArgs false
set_option linter.unusedVariables false
theorem sz2 : sizeIs Try.prog 2 1 := by unfold sizeIs; kernel_rfl
theorem ag2 : aggB Try.prog 2 = some false := by kernel_rfl
theorem ze2 : zeroIs Try.prog 2 (.int .i64 0) 1 8 := ⟨by kernel_rfl, rfl, by simp [Value.cells, Value.oneCell']⟩
theorem sz3 : sizeIs Try.prog 3 1 := by unfold sizeIs; kernel_rfl
theorem ag3 : aggB Try.prog 3 = some false := by kernel_rfl
theorem ze3 : zeroIs Try.prog 3 (.int .i64 0) 1 8 := ⟨by kernel_rfl, rfl, by simp [Value.cells, Value.oneCell']⟩
theorem sz4 : sizeIs Try.prog 4 1 := by unfold sizeIs; kernel_rfl
theorem ag4 : aggB Try.prog 4 = some false := by kernel_rfl
theorem ze4 : zeroIs Try.prog 4 (.bool false) 1 1 := ⟨by kernel_rfl, rfl, by simp [Value.cells, Value.oneCell']⟩
theorem sz5 : sizeIs Try.prog 5 1 := by unfold sizeIs; kernel_rfl
theorem ag5 : aggB Try.prog 5 = some false := by kernel_rfl
theorem ze5 : zeroIs Try.prog 5 (.int .u8 0) 1 1 := ⟨by kernel_rfl, rfl, by simp [Value.cells, Value.oneCell']⟩
theorem sz9 : sizeIs Try.prog 9 1 := by unfold sizeIs; kernel_rfl
theorem ag9 : aggB Try.prog 9 = some false := by kernel_rfl
theorem ze9 : zeroIs Try.prog 9 (.string ⟨#[]⟩) 1 16 := ⟨by kernel_rfl, rfl, by simp [Value.cells, Value.oneCell']⟩
theorem sz12 : sizeIs Try.prog 12 1 := by unfold sizeIs; kernel_rfl
theorem ag12 : aggB Try.prog 12 = some false := by kernel_rfl
theorem ze12 : zeroIs Try.prog 12 (.int .u64 0) 1 8 := ⟨by kernel_rfl, rfl, by simp [Value.cells, Value.oneCell']⟩
theorem sz13 : sizeIs Try.prog 13 2 := by unfold sizeIs; kernel_rfl
theorem ag13 : aggB Try.prog 13 = some true := by kernel_rfl
theorem ze13 : zeroIs Try.prog 13 (.agg #[.string ⟨#[]⟩, .int .u64 0]) 2 24 := ⟨by kernel_rfl, rfl, by simp [Value.cells, Value.oneCell']⟩
theorem fl13_0 : fieldIs Try.prog 13 0 0 9 := ⟨_, _, Try.underlying13, rfl, rfl, rfl⟩
theorem fl13_1 : fieldIs Try.prog 13 1 1 12 := ⟨_, _, Try.underlying13, rfl, rfl, rfl⟩
theorem sz21 : sizeIs Try.prog 21 1 := by unfold sizeIs; kernel_rfl
theorem ag21 : aggB Try.prog 21 = some false := by kernel_rfl
theorem ze21 : zeroIs Try.prog 21 (.int .i32 0) 1 4 := ⟨by kernel_rfl, rfl, by simp [Value.cells, Value.oneCell']⟩
theorem sz22 : sizeIs Try.prog 22 1 := by unfold sizeIs; kernel_rfl
theorem ag22 : aggB Try.prog 22 = some false := by kernel_rfl
theorem ze22 : zeroIs Try.prog 22 (.slice none 0 0) 1 24 := ⟨by kernel_rfl, rfl, by simp [Value.cells, Value.oneCell']⟩
theorem sz23 : sizeIs Try.prog 23 1 := by unfold sizeIs; kernel_rfl
theorem ag23 : aggB Try.prog 23 = some false := by kernel_rfl
theorem ze23 : zeroIs Try.prog 23 (.slice none 0 0) 1 24 := ⟨by kernel_rfl, rfl, by simp [Value.cells, Value.oneCell']⟩
theorem sz25 : sizeIs Try.prog 25 1 := by unfold sizeIs; kernel_rfl
theorem ag25 : aggB Try.prog 25 = some false := by kernel_rfl
theorem ze25 : zeroIs Try.prog 25 (.pointer none) 1 8 := ⟨by kernel_rfl, rfl, by simp [Value.cells, Value.oneCell']⟩
theorem sz29 : sizeIs Try.prog 29 5 := by unfold sizeIs; kernel_rfl
theorem ag29 : aggB Try.prog 29 = some true := by kernel_rfl
theorem ze29 : zeroIs Try.prog 29 (.agg #[.string ⟨#[]⟩, .int .i64 0, .int .i64 0, .int .i64 0, .string ⟨#[]⟩]) 5 56 := ⟨by kernel_rfl, rfl, by simp [Value.cells, Value.oneCell']⟩
theorem fl29_0 : fieldIs Try.prog 29 0 0 9 := ⟨_, _, Try.underlying29, rfl, rfl, rfl⟩
theorem fl29_1 : fieldIs Try.prog 29 1 1 3 := ⟨_, _, Try.underlying29, rfl, rfl, rfl⟩
theorem fl29_2 : fieldIs Try.prog 29 2 2 3 := ⟨_, _, Try.underlying29, rfl, rfl, rfl⟩
theorem fl29_3 : fieldIs Try.prog 29 3 3 3 := ⟨_, _, Try.underlying29, rfl, rfl, rfl⟩
theorem fl29_4 : fieldIs Try.prog 29 4 4 9 := ⟨_, _, Try.underlying29, rfl, rfl, rfl⟩
theorem sz30 : sizeIs Try.prog 30 5 := by unfold sizeIs; kernel_rfl
theorem ag30 : aggB Try.prog 30 = some true := by kernel_rfl
theorem ze30 : zeroIs Try.prog 30 (.agg #[.string ⟨#[]⟩, .int .i64 0, .int .i64 0, .int .i64 0, .string ⟨#[]⟩]) 5 56 := ⟨by kernel_rfl, rfl, by simp [Value.cells, Value.oneCell']⟩
theorem fl30_0 : fieldIs Try.prog 30 0 0 9 := ⟨_, _, Try.underlying30, rfl, rfl, rfl⟩
theorem fl30_1 : fieldIs Try.prog 30 1 1 3 := ⟨_, _, Try.underlying30, rfl, rfl, rfl⟩
theorem fl30_2 : fieldIs Try.prog 30 2 2 3 := ⟨_, _, Try.underlying30, rfl, rfl, rfl⟩
theorem fl30_3 : fieldIs Try.prog 30 3 3 3 := ⟨_, _, Try.underlying30, rfl, rfl, rfl⟩
theorem fl30_4 : fieldIs Try.prog 30 4 4 9 := ⟨_, _, Try.underlying30, rfl, rfl, rfl⟩
theorem sz37 : sizeIs Try.prog 37 1 := by unfold sizeIs; kernel_rfl
theorem ag37 : aggB Try.prog 37 = some false := by kernel_rfl
theorem ze37 : zeroIs Try.prog 37 (.slice none 0 0) 1 24 := ⟨by kernel_rfl, rfl, by simp [Value.cells, Value.oneCell']⟩
theorem sz40 : sizeIs Try.prog 40 1 := by unfold sizeIs; kernel_rfl
theorem ag40 : aggB Try.prog 40 = some false := by kernel_rfl
theorem ze40 : zeroIs Try.prog 40 (.slice none 0 0) 1 24 := ⟨by kernel_rfl, rfl, by simp [Value.cells, Value.oneCell']⟩
theorem sz41 : sizeIs Try.prog 41 4 := by unfold sizeIs; kernel_rfl
theorem ag41 : aggB Try.prog 41 = some true := by kernel_rfl
theorem ze41 : zeroIs Try.prog 41 (.agg #[.slice none 0 0, .slice none 0 0, .slice none 0 0, .int .i64 0]) 4 80 := ⟨by kernel_rfl, rfl, by simp [Value.cells, Value.oneCell']⟩
theorem fl41_0 : fieldIs Try.prog 41 0 0 23 := ⟨_, _, Try.underlying41, rfl, rfl, rfl⟩
theorem fl41_1 : fieldIs Try.prog 41 1 1 23 := ⟨_, _, Try.underlying41, rfl, rfl, rfl⟩
theorem fl41_2 : fieldIs Try.prog 41 2 2 23 := ⟨_, _, Try.underlying41, rfl, rfl, rfl⟩
theorem fl41_3 : fieldIs Try.prog 41 3 3 3 := ⟨_, _, Try.underlying41, rfl, rfl, rfl⟩
theorem sz42 : sizeIs Try.prog 42 4 := by unfold sizeIs; kernel_rfl
theorem ag42 : aggB Try.prog 42 = some true := by kernel_rfl
theorem ze42 : zeroIs Try.prog 42 (.agg #[.slice none 0 0, .slice none 0 0, .slice none 0 0, .int .i64 0]) 4 80 := ⟨by kernel_rfl, rfl, by simp [Value.cells, Value.oneCell']⟩
theorem fl42_0 : fieldIs Try.prog 42 0 0 23 := ⟨_, _, Try.underlying42, rfl, rfl, rfl⟩
theorem fl42_1 : fieldIs Try.prog 42 1 1 23 := ⟨_, _, Try.underlying42, rfl, rfl, rfl⟩
theorem fl42_2 : fieldIs Try.prog 42 2 2 23 := ⟨_, _, Try.underlying42, rfl, rfl, rfl⟩
theorem fl42_3 : fieldIs Try.prog 42 3 3 3 := ⟨_, _, Try.underlying42, rfl, rfl, rfl⟩
theorem sz43 : sizeIs Try.prog 43 1 := by unfold sizeIs; kernel_rfl
theorem ag43 : aggB Try.prog 43 = some false := by kernel_rfl
theorem ze43 : zeroIs Try.prog 43 (.int .i64 0) 1 8 := ⟨by kernel_rfl, rfl, by simp [Value.cells, Value.oneCell']⟩
theorem sz52 : sizeIs Try.prog 52 8 := by unfold sizeIs; kernel_rfl
theorem ag52 : aggB Try.prog 52 = some true := by kernel_rfl
theorem ze52 : zeroIs Try.prog 52 (.agg #[.bool false, .bool false, .bool false, .bool false, .bool false, .bool false, .bool false, .bool false]) 8 8 := ⟨by kernel_rfl, rfl, by simp [Value.cells, Value.oneCell']⟩
theorem sz55 : sizeIs Try.prog 55 1 := by unfold sizeIs; kernel_rfl
theorem ag55 : aggB Try.prog 55 = some false := by kernel_rfl
theorem ze55 : zeroIs Try.prog 55 (.slice none 0 0) 1 24 := ⟨by kernel_rfl, rfl, by simp [Value.cells, Value.oneCell']⟩
theorem sz57 : sizeIs Try.prog 57 2 := by unfold sizeIs; kernel_rfl
theorem ag57 : aggB Try.prog 57 = some true := by kernel_rfl
theorem ze57 : zeroIs Try.prog 57 (.agg #[.slice none 0 0, .int .i64 0]) 2 32 := ⟨by kernel_rfl, rfl, by simp [Value.cells, Value.oneCell']⟩
theorem fl57_0 : fieldIs Try.prog 57 0 0 23 := ⟨_, _, Try.underlying57, rfl, rfl, rfl⟩
theorem fl57_1 : fieldIs Try.prog 57 1 1 3 := ⟨_, _, Try.underlying57, rfl, rfl, rfl⟩
theorem sz58 : sizeIs Try.prog 58 2 := by unfold sizeIs; kernel_rfl
theorem ag58 : aggB Try.prog 58 = some true := by kernel_rfl
theorem ze58 : zeroIs Try.prog 58 (.agg #[.slice none 0 0, .int .i64 0]) 2 32 := ⟨by kernel_rfl, rfl, by simp [Value.cells, Value.oneCell']⟩
theorem fl58_0 : fieldIs Try.prog 58 0 0 23 := ⟨_, _, Try.underlying58, rfl, rfl, rfl⟩
theorem fl58_1 : fieldIs Try.prog 58 1 1 3 := ⟨_, _, Try.underlying58, rfl, rfl, rfl⟩
theorem sz62 : sizeIs Try.prog 62 1 := by unfold sizeIs; kernel_rfl
theorem ag62 : aggB Try.prog 62 = some false := by kernel_rfl
theorem ze62 : zeroIs Try.prog 62 (.slice none 0 0) 1 24 := ⟨by kernel_rfl, rfl, by simp [Value.cells, Value.oneCell']⟩
theorem sz66 : sizeIs Try.prog 66 1 := by unfold sizeIs; kernel_rfl
theorem ag66 : aggB Try.prog 66 = some false := by kernel_rfl
theorem ze66 : zeroIs Try.prog 66 (.int .u64 0) 1 8 := ⟨by kernel_rfl, rfl, by simp [Value.cells, Value.oneCell']⟩
theorem sz67 : sizeIs Try.prog 67 1 := by unfold sizeIs; kernel_rfl
theorem ag67 : aggB Try.prog 67 = some false := by kernel_rfl
theorem ze67 : zeroIs Try.prog 67 (.slice none 0 0) 1 24 := ⟨by kernel_rfl, rfl, by simp [Value.cells, Value.oneCell']⟩
theorem sz77 : sizeIs Try.prog 77 1 := by unfold sizeIs; kernel_rfl
theorem ag77 : aggB Try.prog 77 = some false := by kernel_rfl
theorem ze77 : zeroIs Try.prog 77 (.int .u32 0) 1 4 := ⟨by kernel_rfl, rfl, by simp [Value.cells, Value.oneCell']⟩
theorem sz79 : sizeIs Try.prog 79 1 := by unfold sizeIs; kernel_rfl
theorem ag79 : aggB Try.prog 79 = some false := by kernel_rfl
theorem ze79 : zeroIs Try.prog 79 (.int .u64 0) 1 8 := ⟨by kernel_rfl, rfl, by simp [Value.cells, Value.oneCell']⟩
theorem sz80 : sizeIs Try.prog 80 1 := by unfold sizeIs; kernel_rfl
theorem ag80 : aggB Try.prog 80 = some false := by kernel_rfl
theorem ze80 : zeroIs Try.prog 80 (.slice none 0 0) 1 24 := ⟨by kernel_rfl, rfl, by simp [Value.cells, Value.oneCell']⟩
theorem sz86 : sizeIs Try.prog 86 0 := by unfold sizeIs; kernel_rfl
theorem ag86 : aggB Try.prog 86 = some true := by kernel_rfl
theorem ze86 : zeroIs Try.prog 86 (.agg #[]) 0 0 := ⟨by kernel_rfl, rfl, by simp [Value.cells, Value.oneCell']⟩
theorem sz87 : sizeIs Try.prog 87 0 := by unfold sizeIs; kernel_rfl
theorem ag87 : aggB Try.prog 87 = some true := by kernel_rfl
theorem ze87 : zeroIs Try.prog 87 (.agg #[]) 0 0 := ⟨by kernel_rfl, rfl, by simp [Value.cells, Value.oneCell']⟩
theorem fl87_0 : fieldIs Try.prog 87 0 0 86 := ⟨_, _, Try.underlying87, rfl, rfl, rfl⟩
theorem sz92 : sizeIs Try.prog 92 1 := by unfold sizeIs; kernel_rfl
theorem ag92 : aggB Try.prog 92 = some false := by kernel_rfl
theorem ze92 : zeroIs Try.prog 92 (.pointer none) 1 8 := ⟨by kernel_rfl, rfl, by simp [Value.cells, Value.oneCell']⟩
end Go.Proofs.Ytjgbbffcjbmjmaa
