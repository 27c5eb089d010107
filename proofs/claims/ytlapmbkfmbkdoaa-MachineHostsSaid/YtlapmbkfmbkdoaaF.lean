/- Closed facts on the program's types and functions. No condition. -/
import Derived.Test.YtlapmbkfmbkdoaaRows
import Derived.Test.YtlapmbkfmbkdoaaE
namespace Go.Proofs.Ytlapmbkfmbkdoaa
open Go Go.Fw
theorem mix : Try.prog.follows .mixedOrders = true := by kernel_rfl
theorem one2 : oneT Try.prog 2 = true := by kernel_rfl
theorem nz2 : nzT Try.prog 2 = true := by kernel_rfl
theorem sz2 : szT Try.prog 2 1 := by unfold szT; kernel_rfl
theorem one3 : oneT Try.prog 3 = true := by kernel_rfl
theorem nz3 : nzT Try.prog 3 = true := by kernel_rfl
theorem sz3 : szT Try.prog 3 1 := by unfold szT; kernel_rfl
theorem one4 : oneT Try.prog 4 = true := by kernel_rfl
theorem nz4 : nzT Try.prog 4 = true := by kernel_rfl
theorem sz4 : szT Try.prog 4 1 := by unfold szT; kernel_rfl
theorem one5 : oneT Try.prog 5 = true := by kernel_rfl
theorem nz5 : nzT Try.prog 5 = true := by kernel_rfl
theorem sz5 : szT Try.prog 5 1 := by unfold szT; kernel_rfl
theorem one6 : oneT Try.prog 6 = true := by kernel_rfl
theorem nz6 : nzT Try.prog 6 = true := by kernel_rfl
theorem sz6 : szT Try.prog 6 1 := by unfold szT; kernel_rfl
theorem agg8 : aggT Try.prog 8 = true := by kernel_rfl
theorem nz8 : nzT Try.prog 8 = true := by kernel_rfl
theorem sz8 : szT Try.prog 8 4 := by unfold szT; kernel_rfl
theorem one9 : oneT Try.prog 9 = true := by kernel_rfl
theorem nz9 : nzT Try.prog 9 = true := by kernel_rfl
theorem sz9 : szT Try.prog 9 1 := by unfold szT; kernel_rfl
theorem one10 : oneT Try.prog 10 = true := by kernel_rfl
theorem nz10 : nzT Try.prog 10 = true := by kernel_rfl
theorem sz10 : szT Try.prog 10 1 := by unfold szT; kernel_rfl
theorem one11 : oneT Try.prog 11 = true := by kernel_rfl
theorem nz11 : nzT Try.prog 11 = true := by kernel_rfl
theorem sz11 : szT Try.prog 11 1 := by unfold szT; kernel_rfl
theorem one12 : oneT Try.prog 12 = true := by kernel_rfl
theorem nz12 : nzT Try.prog 12 = true := by kernel_rfl
theorem sz12 : szT Try.prog 12 1 := by unfold szT; kernel_rfl
theorem agg14 : aggT Try.prog 14 = true := by kernel_rfl
theorem nz14 : nzT Try.prog 14 = true := by kernel_rfl
theorem sz14 : szT Try.prog 14 2 := by unfold szT; kernel_rfl
theorem one15 : oneT Try.prog 15 = true := by kernel_rfl
theorem nz15 : nzT Try.prog 15 = true := by kernel_rfl
theorem sz15 : szT Try.prog 15 1 := by unfold szT; kernel_rfl
theorem one16 : oneT Try.prog 16 = true := by kernel_rfl
theorem nz16 : nzT Try.prog 16 = true := by kernel_rfl
theorem sz16 : szT Try.prog 16 1 := by unfold szT; kernel_rfl
theorem one17 : oneT Try.prog 17 = true := by kernel_rfl
theorem nz17 : nzT Try.prog 17 = true := by kernel_rfl
theorem sz17 : szT Try.prog 17 1 := by unfold szT; kernel_rfl
theorem agg19 : aggT Try.prog 19 = true := by kernel_rfl
theorem nz19 : nzT Try.prog 19 = true := by kernel_rfl
theorem sz19 : szT Try.prog 19 1 := by unfold szT; kernel_rfl
theorem one23 : oneT Try.prog 23 = true := by kernel_rfl
theorem nz23 : nzT Try.prog 23 = true := by kernel_rfl
theorem sz23 : szT Try.prog 23 1 := by unfold szT; kernel_rfl
theorem one24 : oneT Try.prog 24 = true := by kernel_rfl
theorem nz24 : nzT Try.prog 24 = true := by kernel_rfl
theorem sz24 : szT Try.prog 24 1 := by unfold szT; kernel_rfl
theorem agg28 : aggT Try.prog 28 = true := by kernel_rfl
theorem nz28 : nzT Try.prog 28 = true := by kernel_rfl
theorem sz28 : szT Try.prog 28 20 := by unfold szT; kernel_rfl
theorem one29 : oneT Try.prog 29 = true := by kernel_rfl
theorem nz29 : nzT Try.prog 29 = true := by kernel_rfl
theorem sz29 : szT Try.prog 29 1 := by unfold szT; kernel_rfl
theorem agg31 : aggT Try.prog 31 = true := by kernel_rfl
theorem nz31 : nzT Try.prog 31 = true := by kernel_rfl
theorem sz31 : szT Try.prog 31 4 := by unfold szT; kernel_rfl
theorem one32 : oneT Try.prog 32 = true := by kernel_rfl
theorem nz32 : nzT Try.prog 32 = true := by kernel_rfl
theorem sz32 : szT Try.prog 32 1 := by unfold szT; kernel_rfl
theorem agg34 : aggT Try.prog 34 = true := by kernel_rfl
theorem nz34 : nzT Try.prog 34 = true := by kernel_rfl
theorem sz34 : szT Try.prog 34 48 := by unfold szT; kernel_rfl
theorem one35 : oneT Try.prog 35 = true := by kernel_rfl
theorem nz35 : nzT Try.prog 35 = true := by kernel_rfl
theorem sz35 : szT Try.prog 35 1 := by unfold szT; kernel_rfl
theorem agg37 : aggT Try.prog 37 = true := by kernel_rfl
theorem nz37 : nzT Try.prog 37 = true := by kernel_rfl
theorem sz37 : szT Try.prog 37 50 := by unfold szT; kernel_rfl
theorem agg39 : aggT Try.prog 39 = true := by kernel_rfl
theorem nz39 : nzT Try.prog 39 = true := by kernel_rfl
theorem sz39 : szT Try.prog 39 5 := by unfold szT; kernel_rfl
theorem one40 : oneT Try.prog 40 = true := by kernel_rfl
theorem nz40 : nzT Try.prog 40 = true := by kernel_rfl
theorem sz40 : szT Try.prog 40 1 := by unfold szT; kernel_rfl
theorem agg48 : aggT Try.prog 48 = true := by kernel_rfl
theorem nz48 : nzT Try.prog 48 = true := by kernel_rfl
theorem sz48 : szT Try.prog 48 5 := by unfold szT; kernel_rfl
theorem one53 : oneT Try.prog 53 = true := by kernel_rfl
theorem nz53 : nzT Try.prog 53 = true := by kernel_rfl
theorem sz53 : szT Try.prog 53 1 := by unfold szT; kernel_rfl
theorem agg55 : aggT Try.prog 55 = true := by kernel_rfl
theorem nz55 : nzT Try.prog 55 = true := by kernel_rfl
theorem sz55 : szT Try.prog 55 3 := by unfold szT; kernel_rfl
theorem agg59 : aggT Try.prog 59 = true := by kernel_rfl
theorem nz59 : nzT Try.prog 59 = true := by kernel_rfl
theorem sz59 : szT Try.prog 59 1025 := by unfold szT; kernel_rfl
theorem one61 : oneT Try.prog 61 = true := by kernel_rfl
theorem nz61 : nzT Try.prog 61 = true := by kernel_rfl
theorem sz61 : szT Try.prog 61 1 := by unfold szT; kernel_rfl
theorem agg72 : aggT Try.prog 72 = true := by kernel_rfl
theorem nz72 : nzT Try.prog 72 = true := by kernel_rfl
theorem sz72 : szT Try.prog 72 30 := by unfold szT; kernel_rfl
theorem one78 : oneT Try.prog 78 = true := by kernel_rfl
theorem nz78 : nzT Try.prog 78 = true := by kernel_rfl
theorem sz78 : szT Try.prog 78 1 := by unfold szT; kernel_rfl
theorem one79 : oneT Try.prog 79 = true := by kernel_rfl
theorem nz79 : nzT Try.prog 79 = true := by kernel_rfl
theorem sz79 : szT Try.prog 79 1 := by unfold szT; kernel_rfl
theorem agg81 : aggT Try.prog 81 = true := by kernel_rfl
theorem nz81 : nzT Try.prog 81 = true := by kernel_rfl
theorem sz81 : szT Try.prog 81 59 := by unfold szT; kernel_rfl
theorem agg84 : aggT Try.prog 84 = true := by kernel_rfl
theorem nz84 : nzT Try.prog 84 = true := by kernel_rfl
theorem sz84 : szT Try.prog 84 5 := by unfold szT; kernel_rfl
theorem agg85 : aggT Try.prog 85 = true := by kernel_rfl
theorem nz85 : nzT Try.prog 85 = true := by kernel_rfl
theorem sz85 : szT Try.prog 85 140 := by unfold szT; kernel_rfl
theorem one88 : oneT Try.prog 88 = true := by kernel_rfl
theorem nz88 : nzT Try.prog 88 = true := by kernel_rfl
theorem sz88 : szT Try.prog 88 1 := by unfold szT; kernel_rfl
theorem agg100 : aggT Try.prog 100 = true := by kernel_rfl
theorem nz100 : nzT Try.prog 100 = true := by kernel_rfl
theorem sz100 : szT Try.prog 100 12 := by unfold szT; kernel_rfl
theorem agg101 : aggT Try.prog 101 = true := by kernel_rfl
theorem nz101 : nzT Try.prog 101 = true := by kernel_rfl
theorem sz101 : szT Try.prog 101 32 := by unfold szT; kernel_rfl
theorem agg121 : aggT Try.prog 121 = true := by kernel_rfl
theorem nz121 : nzT Try.prog 121 = true := by kernel_rfl
theorem sz121 : szT Try.prog 121 8 := by unfold szT; kernel_rfl
theorem agg131 : aggT Try.prog 131 = true := by kernel_rfl
theorem nz131 : nzT Try.prog 131 = true := by kernel_rfl
theorem sz131 : szT Try.prog 131 4 := by unfold szT; kernel_rfl
theorem agg132 : aggT Try.prog 132 = true := by kernel_rfl
theorem sz132 : szT Try.prog 132 0 := by unfold szT; kernel_rfl
theorem agg134 : aggT Try.prog 134 = true := by kernel_rfl
theorem sz134 : szT Try.prog 134 0 := by unfold szT; kernel_rfl
theorem one135 : oneT Try.prog 135 = true := by kernel_rfl
theorem nz135 : nzT Try.prog 135 = true := by kernel_rfl
theorem sz135 : szT Try.prog 135 1 := by unfold szT; kernel_rfl
theorem one136 : oneT Try.prog 136 = true := by kernel_rfl
theorem nz136 : nzT Try.prog 136 = true := by kernel_rfl
theorem sz136 : szT Try.prog 136 1 := by unfold szT; kernel_rfl
theorem one137 : oneT Try.prog 137 = true := by kernel_rfl
theorem nz137 : nzT Try.prog 137 = true := by kernel_rfl
theorem sz137 : szT Try.prog 137 1 := by unfold szT; kernel_rfl
theorem one139 : oneT Try.prog 139 = true := by kernel_rfl
theorem nz139 : nzT Try.prog 139 = true := by kernel_rfl
theorem sz139 : szT Try.prog 139 1 := by unfold szT; kernel_rfl
theorem one140 : oneT Try.prog 140 = true := by kernel_rfl
theorem nz140 : nzT Try.prog 140 = true := by kernel_rfl
theorem sz140 : szT Try.prog 140 1 := by unfold szT; kernel_rfl
theorem one141 : oneT Try.prog 141 = true := by kernel_rfl
theorem nz141 : nzT Try.prog 141 = true := by kernel_rfl
theorem sz141 : szT Try.prog 141 1 := by unfold szT; kernel_rfl
theorem agg143 : aggT Try.prog 143 = true := by kernel_rfl
theorem nz143 : nzT Try.prog 143 = true := by kernel_rfl
theorem sz143 : szT Try.prog 143 11 := by unfold szT; kernel_rfl
theorem ze28 : zeT Try.prog 28 (.agg #[(.int .u8 0), (.int .u8 0), (.int .u8 0), (.int .u8 0), (.int .u8 0), (.int .u8 0), (.int .u8 0), (.int .u8 0), (.int .u8 0), (.int .u8 0), (.int .u8 0), (.int .u8 0), (.int .u8 0), (.int .u8 0), (.int .u8 0), (.int .u8 0), (.int .u8 0), (.int .u8 0), (.int .u8 0), (.int .u8 0)]) := by unfold zeT; kernel_rfl
theorem ze31 : zeT Try.prog 31 (.agg #[(.int .u64 0), (.int .u64 0), (.int .u64 0), (.int .u64 0)]) := by unfold zeT; kernel_rfl
theorem ze34 : zeT Try.prog 34 (.agg #[(.int .u8 0), (.int .u8 0), (.int .u8 0), (.int .u8 0), (.int .u8 0), (.int .u8 0), (.int .u8 0), (.int .u8 0), (.int .u8 0), (.int .u8 0), (.int .u8 0), (.int .u8 0), (.int .u8 0), (.int .u8 0), (.int .u8 0), (.int .u8 0), (.int .u8 0), (.int .u8 0), (.int .u8 0), (.int .u8 0), (.int .u8 0), (.int .u8 0), (.int .u8 0), (.int .u8 0), (.int .u8 0), (.int .u8 0), (.int .u8 0), (.int .u8 0), (.int .u8 0), (.int .u8 0), (.int .u8 0), (.int .u8 0), (.int .u8 0), (.int .u8 0), (.int .u8 0), (.int .u8 0), (.int .u8 0), (.int .u8 0), (.int .u8 0), (.int .u8 0), (.int .i64 0), (.int .u64 0), (.int .u64 0), (.int .u64 0), (.int .u64 0), (.slice none 0 0), (.int .i64 0), (.int .i64 0)]) := by unfold zeT; kernel_rfl
theorem ze37 : zeT Try.prog 37 (.agg #[(.slice none 0 0), (.int .u8 0), (.int .u8 0), (.int .u8 0), (.int .u8 0), (.int .u8 0), (.int .u8 0), (.int .u8 0), (.int .u8 0), (.int .u8 0), (.int .u8 0), (.int .u8 0), (.int .u8 0), (.int .u8 0), (.int .u8 0), (.int .u8 0), (.int .u8 0), (.int .u8 0), (.int .u8 0), (.int .u8 0), (.int .u8 0), (.int .u8 0), (.int .u8 0), (.int .u8 0), (.int .u8 0), (.int .u8 0), (.int .u8 0), (.int .u8 0), (.int .u8 0), (.int .u8 0), (.int .u8 0), (.int .u8 0), (.int .u8 0), (.int .u8 0), (.int .u8 0), (.int .u8 0), (.int .u8 0), (.int .u8 0), (.int .u8 0), (.int .u8 0), (.int .u8 0), (.int .i64 0), (.int .u64 0), (.int .u64 0), (.int .u64 0), (.int .u64 0), (.slice none 0 0), (.int .i64 0), (.int .i64 0), (.slice none 0 0)]) := by unfold zeT; kernel_rfl
theorem ze39 : zeT Try.prog 39 (.agg #[(.int .u64 0), (.int .u64 0), (.int .u64 0), (.int .u64 0), (.int .i64 0)]) := by unfold zeT; kernel_rfl
theorem ze48 : zeT Try.prog 48 (.agg #[(.int .u64 0), (.int .u64 0), (.int .u64 0), (.int .u64 0), (.int .i64 0)]) := by unfold zeT; kernel_rfl
theorem ze55 : zeT Try.prog 55 (.agg #[(.slice none 0 0), (.slice none 0 0), (.slice none 0 0)]) := by unfold zeT; kernel_rfl
theorem ze59 : zeT Try.prog 59 (.agg #[(.bool false), (.bool false), (.bool false), (.bool false), (.bool false), (.bool false), (.bool false), (.bool false), (.bool false), (.bool false), (.bool false), (.bool false), (.bool false), (.bool false), (.bool false), (.bool false), (.bool false), (.bool false), (.bool false), (.bool false), (.bool false), (.bool false), (.bool false), (.bool false), (.bool false), (.bool false), (.bool false), (.bool false), (.bool false), (.bool false), (.bool false), (.bool false), (.bool false), (.bool false), (.bool false), (.bool false), (.bool false), (.bool false), (.bool false), (.bool false), (.bool false), (.bool false), (.bool false), (.bool false), (.bool false), (.bool false), (.bool false), (.bool false), (.bool false), (.bool false), (.bool false), (.bool false), (.bool false), (.bool false), (.bool false), (.bool false), (.bool false), (.bool false), (.bool false), (.bool false), (.bool false), (.bool false), (.bool false), (.bool false), (.bool false), (.bool false), (.bool false), (.bool false), (.bool false), (.bool false), (.bool false), (.bool false), (.bool false), (.bool false), (.bool false), (.bool false), (.bool false), (.bool false), (.bool false), (.bool false), (.bool false), (.bool false), (.bool false), (.bool false), (.bool false), (.bool false), (.bool false), (.bool false), (.bool false), (.bool false), (.bool false), (.bool false), (.bool false), (.bool false), (.bool false), (.bool false), (.bool false), (.bool false), (.bool false), (.bool false), (.bool false), (.bool false), (.bool false), (.bool false), (.bool false), (.bool false), (.bool false), (.bool false), (.bool false), (.bool false), (.bool false), (.bool false), (.bool false), (.bool false), (.bool false), (.bool false), (.bool false), (.bool false), (.bool false), (.bool false), (.bool false), (.bool false), (.bool false), (.bool false), (.bool false), (.bool false), (.bool false), (.bool false), (.bool false), (.bool false), (.bool false), (.bool false), (.bool false), (.bool false), (.bool false), (.bool false), (.bool false), (.bool false), (.bool false), (.bool false), (.bool false), (.bool false), (.bool false), (.bool false), (.bool false), (.bool false), (.bool false), (.bool false), (.bool false), (.bool false), (.bool false), (.bool false), (.bool false), (.bool false), (.bool false), (.bool false), (.bool false), (.bool false), (.bool false), (.bool false), (.bool false), (.bool false), (.bool false), (.bool false), (.bool false), (.bool false), (.bool false), (.bool false), (.bool false), (.bool false), (.bool false), (.bool false), (.bool false), (.bool false), (.bool false), (.bool false), (.bool false), (.bool false), (.bool false), (.bool false), (.bool false), (.bool false), (.bool false), (.bool false), (.bool false), (.bool false), (.bool false), (.bool false), (.bool false), (.bool false), (.bool false), (.bool false), (.bool false), (.bool false), (.bool false), (.bool false), (.bool false), (.bool false), (.bool false), (.bool false), (.bool false), (.bool false), (.bool false), (.bool false), (.bool false), (.bool false), (.bool false), (.bool false), (.bool false), (.bool false), (.bool false), (.bool false), (.bool false), (.bool false), (.bool false), (.bool false), (.bool false), (.bool false), (.bool false), (.bool false), (.bool false), (.bool false), (.bool false), (.bool false), (.bool false), (.bool false), (.bool false), (.bool false), (.bool false), (.bool false), (.bool false), (.bool false), (.bool false), (.bool false), (.bool false), (.bool false), (.bool false), (.bool false), (.bool false), (.bool false), (.bool false), (.bool false), (.bool false), (.bool false), (.bool false), (.bool false), (.bool false), (.bool false), (.bool false), (.bool false), (.bool false), (.bool false), (.bool false), (.bool false), (.bool false), (.bool false), (.bool false), (.bool false), (.bool false), (.bool false), (.bool false), (.bool false), (.bool false), (.bool false), (.bool false), (.bool false), (.bool false), (.bool false), (.bool false), (.bool false), (.bool false), (.bool false), (.bool false), (.bool false), (.bool false), (.bool false), (.bool false), (.bool false), (.bool false), (.bool false), (.bool false), (.bool false), (.bool false), (.bool false), (.bool false), (.bool false), (.bool false), (.bool false), (.bool false), (.bool false), (.bool false), (.bool false), (.bool false), (.bool false), (.bool false), (.bool false), (.bool false), (.bool false), (.bool false), (.bool false), (.bool false), (.bool false), (.bool false), (.bool false), (.bool false), (.bool false), (.bool false), (.bool false), (.bool false), (.bool false), (.bool false), (.bool false), (.bool false), (.bool false), (.bool false), (.bool false), (.bool false), (.bool false), (.bool false), (.bool false), (.bool false), (.bool false), (.bool false), (.bool false), (.bool false), (.bool false), (.bool false), (.bool false), (.bool false), (.bool false), (.bool false), (.bool false), (.bool false), (.bool false), (.bool false), (.bool false), (.bool false), (.bool false), (.bool false), (.bool false), (.bool false), (.bool false), (.bool false), (.bool false), (.bool false), (.bool false), (.bool false), (.bool false), (.bool false), (.bool false), (.bool false), (.bool false), (.bool false), (.bool false), (.bool false), (.bool false), (.bool false), (.bool false), (.bool false), (.bool false), (.bool false), (.bool false), (.bool false), (.bool false), (.bool false), (.bool false), (.bool false), (.bool false), (.bool false), (.bool false), (.bool false), (.bool false), (.bool false), (.bool false), (.bool false), (.bool false), (.bool false), (.bool false), (.bool false), (.bool false), (.bool false), (.bool false), (.bool false), (.bool false), (.bool false), (.bool false), (.bool false), (.bool false), (.bool false), (.bool false), (.bool false), (.bool false), (.bool false), (.bool false), (.bool false), (.bool false), (.bool false), (.bool false), (.bool false), (.bool false), (.bool false), (.bool false), (.bool false), (.bool false), (.bool false), (.bool false), (.bool false), (.bool false), (.bool false), (.bool false), (.bool false), (.bool false), (.bool false), (.bool false), (.bool false), (.bool false), (.bool false), (.bool false), (.bool false), (.bool false), (.bool false), (.bool false), (.bool false), (.bool false), (.bool false), (.bool false), (.bool false), (.bool false), (.bool false), (.bool false), (.bool false), (.bool false), (.bool false), (.bool false), (.bool false), (.bool false), (.bool false), (.bool false), (.bool false), (.bool false), (.bool false), (.bool false), (.bool false), (.bool false), (.bool false), (.bool false), (.bool false), (.bool false), (.bool false), (.bool false), (.bool false), (.bool false), (.bool false), (.bool false), (.bool false), (.bool false), (.bool false), (.bool false), (.bool false), (.bool false), (.bool false), (.bool false), (.bool false), (.bool false), (.bool false), (.bool false), (.bool false), (.bool false), (.bool false), (.bool false), (.bool false), (.bool false), (.bool false), (.bool false), (.bool false), (.bool false), (.bool false), (.bool false), (.bool false), (.bool false), (.bool false), (.bool false), (.bool false), (.bool false), (.bool false), (.bool false), (.bool false), (.bool false), (.bool false), (.bool false), (.bool false), (.bool false), (.bool false), (.bool false), (.bool false), (.bool false), (.bool false), (.bool false), (.bool false), (.bool false), (.bool false), (.bool false), (.bool false), (.bool false), (.bool false), (.bool false), (.bool false), (.bool false), (.bool false), (.bool false), (.bool false), (.bool false), (.bool false), (.bool false), (.bool false), (.bool false), (.bool false), (.bool false), (.bool false), (.bool false), (.bool false), (.bool false), (.bool false), (.bool false), (.bool false), (.bool false), (.bool false), (.bool false), (.bool false), (.bool false), (.bool false), (.bool false), (.bool false), (.bool false), (.bool false), (.bool false), (.bool false), (.bool false), (.bool false), (.bool false), (.bool false), (.bool false), (.bool false), (.bool false), (.bool false), (.bool false), (.bool false), (.bool false), (.bool false), (.bool false), (.bool false), (.bool false), (.bool false), (.bool false), (.bool false), (.bool false), (.bool false), (.bool false), (.bool false), (.bool false), (.bool false), (.bool false), (.bool false), (.bool false), (.bool false), (.bool false), (.bool false), (.bool false), (.bool false), (.bool false), (.bool false), (.bool false), (.bool false), (.bool false), (.bool false), (.bool false), (.bool false), (.bool false), (.bool false), (.bool false), (.bool false), (.bool false), (.bool false), (.bool false), (.bool false), (.bool false), (.bool false), (.bool false), (.bool false), (.bool false), (.bool false), (.bool false), (.bool false), (.bool false), (.bool false), (.bool false), (.bool false), (.bool false), (.bool false), (.bool false), (.bool false), (.bool false), (.bool false), (.bool false), (.bool false), (.bool false), (.bool false), (.bool false), (.bool false), (.bool false), (.bool false), (.bool false), (.bool false), (.bool false), (.bool false), (.bool false), (.bool false), (.bool false), (.bool false), (.bool false), (.bool false), (.bool false), (.bool false), (.bool false), (.bool false), (.bool false), (.bool false), (.bool false), (.bool false), (.bool false), (.bool false), (.bool false), (.bool false), (.bool false), (.bool false), (.bool false), (.bool false), (.bool false), (.bool false), (.bool false), (.bool false), (.bool false), (.bool false), (.bool false), (.bool false), (.bool false), (.bool false), (.bool false), (.bool false), (.bool false), (.bool false), (.bool false), (.bool false), (.bool false), (.bool false), (.bool false), (.bool false), (.bool false), (.bool false), (.bool false), (.bool false), (.bool false), (.bool false), (.bool false), (.bool false), (.bool false), (.bool false), (.bool false), (.bool false), (.bool false), (.bool false), (.bool false), (.bool false), (.bool false), (.bool false), (.bool false), (.bool false), (.bool false), (.bool false), (.bool false), (.bool false), (.bool false), (.bool false), (.bool false), (.bool false), (.bool false), (.bool false), (.bool false), (.bool false), (.bool false), (.bool false), (.bool false), (.bool false), (.bool false), (.bool false), (.bool false), (.bool false), (.bool false), (.bool false), (.bool false), (.bool false), (.bool false), (.bool false), (.bool false), (.bool false), (.bool false), (.bool false), (.bool false), (.bool false), (.bool false), (.bool false), (.bool false), (.bool false), (.bool false), (.bool false), (.bool false), (.bool false), (.bool false), (.bool false), (.bool false), (.bool false), (.bool false), (.bool false), (.bool false), (.bool false), (.bool false), (.bool false), (.bool false), (.bool false), (.bool false), (.bool false), (.bool false), (.bool false), (.bool false), (.bool false), (.bool false), (.bool false), (.bool false), (.bool false), (.bool false), (.bool false), (.bool false), (.bool false), (.bool false), (.bool false), (.bool false), (.bool false), (.bool false), (.bool false), (.bool false), (.bool false), (.bool false), (.bool false), (.bool false), (.bool false), (.bool false), (.bool false), (.bool false), (.bool false), (.bool false), (.bool false), (.bool false), (.bool false), (.bool false), (.bool false), (.bool false), (.bool false), (.bool false), (.bool false), (.bool false), (.bool false), (.bool false), (.bool false), (.bool false), (.bool false), (.bool false), (.bool false), (.bool false), (.bool false), (.bool false), (.bool false), (.bool false), (.bool false), (.bool false), (.bool false), (.bool false), (.bool false), (.bool false), (.bool false), (.bool false), (.bool false), (.bool false), (.bool false), (.bool false), (.bool false), (.bool false), (.bool false), (.bool false), (.bool false), (.bool false), (.bool false), (.bool false), (.bool false), (.bool false), (.bool false), (.bool false), (.bool false), (.bool false), (.bool false), (.bool false), (.bool false), (.bool false), (.bool false), (.bool false), (.bool false), (.bool false), (.bool false), (.bool false), (.bool false), (.bool false), (.bool false), (.bool false), (.bool false), (.bool false), (.bool false), (.bool false), (.bool false), (.bool false), (.bool false), (.bool false), (.bool false), (.bool false), (.bool false), (.bool false), (.bool false), (.bool false), (.bool false), (.bool false), (.bool false), (.bool false), (.bool false), (.bool false), (.bool false), (.bool false), (.bool false), (.bool false), (.bool false), (.bool false), (.bool false), (.bool false), (.bool false), (.bool false), (.bool false), (.bool false), (.bool false), (.bool false), (.bool false), (.bool false), (.bool false), (.bool false), (.bool false), (.bool false), (.bool false), (.bool false), (.bool false), (.bool false), (.bool false), (.bool false), (.bool false), (.bool false), (.bool false), (.bool false), (.bool false), (.bool false), (.bool false), (.bool false), (.bool false), (.bool false), (.bool false), (.bool false), (.bool false), (.bool false), (.bool false), (.bool false), (.bool false), (.bool false), (.bool false), (.bool false), (.bool false), (.bool false), (.bool false), (.bool false), (.bool false), (.bool false), (.bool false), (.bool false), (.bool false), (.bool false), (.bool false), (.bool false), (.bool false), (.bool false), (.bool false), (.bool false), (.bool false), (.bool false), (.bool false), (.bool false), (.bool false), (.bool false), (.bool false), (.bool false), (.bool false), (.bool false), (.bool false), (.bool false), (.bool false), (.bool false), (.bool false), (.bool false), (.bool false), (.bool false), (.bool false), (.bool false), (.bool false), (.bool false), (.bool false), (.bool false), (.bool false), (.bool false), (.bool false), (.bool false), (.bool false), (.bool false), (.bool false), (.bool false), (.bool false), (.bool false), (.bool false), (.bool false), (.bool false), (.bool false), (.bool false), (.bool false), (.bool false), (.bool false), (.bool false), (.bool false), (.bool false), (.bool false), (.bool false), (.bool false), (.bool false), (.bool false), (.bool false), (.bool false), (.bool false), (.bool false), (.bool false), (.bool false), (.bool false), (.bool false), (.bool false), (.bool false), (.bool false), (.bool false), (.bool false), (.bool false), (.bool false), (.bool false), (.bool false), (.bool false), (.bool false), (.bool false), (.bool false), (.bool false), (.bool false), (.bool false), (.bool false), (.bool false), (.bool false), (.bool false), (.bool false), (.bool false), (.bool false), (.bool false), (.bool false), (.bool false), (.bool false), (.bool false), (.bool false), (.bool false), (.bool false), (.bool false), (.bool false), (.bool false), (.bool false), (.bool false), (.bool false), (.bool false), (.bool false), (.bool false), (.bool false), (.bool false), (.bool false), (.bool false), (.bool false), (.bool false), (.bool false), (.bool false), (.bool false), (.bool false), (.bool false), (.bool false), (.bool false), (.bool false), (.bool false), (.bool false), (.bool false), (.bool false), (.bool false), (.bool false), (.bool false), (.bool false), (.bool false)]) := by unfold zeT; kernel_rfl
theorem ze72 : zeT Try.prog 72 (.agg #[(.int .i64 0), (.int .u64 0), (.int .u64 0), (.int .u64 0), (.int .u64 0), (.int .u64 0), (.int .u64 0), (.int .u64 0), (.int .u64 0), (.int .i64 0), (.int .u8 0), (.int .u8 0), (.int .u8 0), (.int .u8 0), (.int .u8 0), (.int .u8 0), (.int .u8 0), (.int .u8 0), (.int .u8 0), (.int .u8 0), (.int .u8 0), (.int .u8 0), (.int .u8 0), (.int .u8 0), (.int .u8 0), (.int .u8 0), (.int .u8 0), (.int .u8 0), (.int .u8 0), (.int .u8 0)]) := by unfold zeT; kernel_rfl
theorem ze81 : zeT Try.prog 81 (.agg #[(.slice none 0 0), (.int .u8 0), (.int .u8 0), (.int .u8 0), (.int .u8 0), (.int .u8 0), (.int .u8 0), (.int .u8 0), (.int .u8 0), (.int .u8 0), (.int .u8 0), (.int .u8 0), (.int .u8 0), (.int .u8 0), (.int .u8 0), (.int .u8 0), (.int .u8 0), (.int .u8 0), (.int .u8 0), (.int .u8 0), (.int .u8 0), (.int .u8 0), (.int .u8 0), (.int .u8 0), (.int .u8 0), (.int .u8 0), (.int .u8 0), (.int .u8 0), (.int .u8 0), (.int .u8 0), (.int .u8 0), (.int .u8 0), (.int .u8 0), (.int .u8 0), (.int .u8 0), (.int .u8 0), (.int .u8 0), (.int .u8 0), (.int .u8 0), (.int .u8 0), (.int .u8 0), (.int .i64 0), (.int .u64 0), (.int .u64 0), (.int .u64 0), (.int .u64 0), (.slice none 0 0), (.int .i64 0), (.int .i64 0), .nilIface, (.slice none 0 0), (.int .i64 0), (.int .i64 0), (.int .i64 0), (.bool false), (.int .u64 0), (.int .u64 0), (.int .u64 0), (.int .u64 0)]) := by unfold zeT; kernel_rfl
theorem ze84 : zeT Try.prog 84 (.agg #[(.string ⟨#[]⟩), (.int .i64 0), (.int .i64 0), (.int .i64 0), .nilFunc]) := by unfold zeT; kernel_rfl
theorem ze85 : zeT Try.prog 85 (.agg #[(.string ⟨#[]⟩), (.int .i64 0), (.int .i64 0), (.int .i64 0), .nilFunc, (.string ⟨#[]⟩), (.int .i64 0), (.int .i64 0), (.int .i64 0), .nilFunc, (.string ⟨#[]⟩), (.int .i64 0), (.int .i64 0), (.int .i64 0), .nilFunc, (.string ⟨#[]⟩), (.int .i64 0), (.int .i64 0), (.int .i64 0), .nilFunc, (.string ⟨#[]⟩), (.int .i64 0), (.int .i64 0), (.int .i64 0), .nilFunc, (.string ⟨#[]⟩), (.int .i64 0), (.int .i64 0), (.int .i64 0), .nilFunc, (.string ⟨#[]⟩), (.int .i64 0), (.int .i64 0), (.int .i64 0), .nilFunc, (.string ⟨#[]⟩), (.int .i64 0), (.int .i64 0), (.int .i64 0), .nilFunc, (.string ⟨#[]⟩), (.int .i64 0), (.int .i64 0), (.int .i64 0), .nilFunc, (.string ⟨#[]⟩), (.int .i64 0), (.int .i64 0), (.int .i64 0), .nilFunc, (.string ⟨#[]⟩), (.int .i64 0), (.int .i64 0), (.int .i64 0), .nilFunc, (.string ⟨#[]⟩), (.int .i64 0), (.int .i64 0), (.int .i64 0), .nilFunc, (.string ⟨#[]⟩), (.int .i64 0), (.int .i64 0), (.int .i64 0), .nilFunc, (.string ⟨#[]⟩), (.int .i64 0), (.int .i64 0), (.int .i64 0), .nilFunc, (.string ⟨#[]⟩), (.int .i64 0), (.int .i64 0), (.int .i64 0), .nilFunc, (.string ⟨#[]⟩), (.int .i64 0), (.int .i64 0), (.int .i64 0), .nilFunc, (.string ⟨#[]⟩), (.int .i64 0), (.int .i64 0), (.int .i64 0), .nilFunc, (.string ⟨#[]⟩), (.int .i64 0), (.int .i64 0), (.int .i64 0), .nilFunc, (.string ⟨#[]⟩), (.int .i64 0), (.int .i64 0), (.int .i64 0), .nilFunc, (.string ⟨#[]⟩), (.int .i64 0), (.int .i64 0), (.int .i64 0), .nilFunc, (.string ⟨#[]⟩), (.int .i64 0), (.int .i64 0), (.int .i64 0), .nilFunc, (.string ⟨#[]⟩), (.int .i64 0), (.int .i64 0), (.int .i64 0), .nilFunc, (.string ⟨#[]⟩), (.int .i64 0), (.int .i64 0), (.int .i64 0), .nilFunc, (.string ⟨#[]⟩), (.int .i64 0), (.int .i64 0), (.int .i64 0), .nilFunc, (.string ⟨#[]⟩), (.int .i64 0), (.int .i64 0), (.int .i64 0), .nilFunc, (.string ⟨#[]⟩), (.int .i64 0), (.int .i64 0), (.int .i64 0), .nilFunc, (.string ⟨#[]⟩), (.int .i64 0), (.int .i64 0), (.int .i64 0), .nilFunc, (.string ⟨#[]⟩), (.int .i64 0), (.int .i64 0), (.int .i64 0), .nilFunc]) := by unfold zeT; kernel_rfl
theorem ze100 : zeT Try.prog 100 (.agg #[(.int .u64 0), (.int .u64 0), (.int .u64 0), (.int .u64 0), (.int .u64 0), (.int .u64 0), (.int .u64 0), (.int .u64 0), (.int .u64 0), (.int .u64 0), (.int .u64 0), (.int .u64 0)]) := by unfold zeT; kernel_rfl
theorem ze101 : zeT Try.prog 101 (.agg #[(.int .u8 0), (.int .u8 0), (.int .u8 0), (.int .u8 0), (.int .u8 0), (.int .u8 0), (.int .u8 0), (.int .u8 0), (.int .u8 0), (.int .u8 0), (.int .u8 0), (.int .u8 0), (.int .u8 0), (.int .u8 0), (.int .u8 0), (.int .u8 0), (.int .u8 0), (.int .u8 0), (.int .u8 0), (.int .u8 0), (.int .u8 0), (.int .u8 0), (.int .u8 0), (.int .u8 0), (.int .u8 0), (.int .u8 0), (.int .u8 0), (.int .u8 0), (.int .u8 0), (.int .u8 0), (.int .u8 0), (.int .u8 0)]) := by unfold zeT; kernel_rfl
theorem ze121 : zeT Try.prog 121 (.agg #[(.int .u64 0), (.int .u64 0), (.int .u64 0), (.int .u64 0), (.int .u64 0), (.int .u64 0), (.int .u64 0), (.int .u64 0)]) := by unfold zeT; kernel_rfl
theorem inf3 : infT Try.prog 3 (.int .i64 0) 1 8 := by unfold infT; kernel_rfl
theorem inf5 : infT Try.prog 5 (.int .u8 0) 1 1 := by unfold infT; kernel_rfl
theorem inf31 : infT Try.prog 31 (.agg #[(.int .u64 0), (.int .u64 0), (.int .u64 0), (.int .u64 0)]) 4 32 := by unfold infT; kernel_rfl
theorem inf48 : infT Try.prog 48 (.agg #[(.int .u64 0), (.int .u64 0), (.int .u64 0), (.int .u64 0), (.int .i64 0)]) 5 40 := by unfold infT; kernel_rfl
theorem inf72 : infT Try.prog 72 (.agg #[(.int .i64 0), (.int .u64 0), (.int .u64 0), (.int .u64 0), (.int .u64 0), (.int .u64 0), (.int .u64 0), (.int .u64 0), (.int .u64 0), (.int .i64 0), (.int .u8 0), (.int .u8 0), (.int .u8 0), (.int .u8 0), (.int .u8 0), (.int .u8 0), (.int .u8 0), (.int .u8 0), (.int .u8 0), (.int .u8 0), (.int .u8 0), (.int .u8 0), (.int .u8 0), (.int .u8 0), (.int .u8 0), (.int .u8 0), (.int .u8 0), (.int .u8 0), (.int .u8 0), (.int .u8 0)]) 30 104 := by unfold infT; kernel_rfl
theorem pl34 : ∀ w, ((fldsOf Try.prog 34).mapM (m := Sem) fun (f : Field) => do pure (f.offset, ← sizeOf f.type)).run Try.prog w = .ok [(0, 20), (20, 20), (40, 1), (41, 4), (45, 1), (46, 1), (47, 1)].toArray w := fun w => by kernel_rfl
theorem pl37 : ∀ w, ((fldsOf Try.prog 37).mapM (m := Sem) fun (f : Field) => do pure (f.offset, ← sizeOf f.type)).run Try.prog w = .ok [(0, 1), (1, 48), (49, 1)].toArray w := fun w => by kernel_rfl
theorem pl39 : ∀ w, ((fldsOf Try.prog 39).mapM (m := Sem) fun (f : Field) => do pure (f.offset, ← sizeOf f.type)).run Try.prog w = .ok [(0, 4), (4, 1)].toArray w := fun w => by kernel_rfl
theorem pl48 : ∀ w, ((fldsOf Try.prog 48).mapM (m := Sem) fun (f : Field) => do pure (f.offset, ← sizeOf f.type)).run Try.prog w = .ok [(0, 4), (4, 1)].toArray w := fun w => by kernel_rfl
theorem pl55 : ∀ w, ((fldsOf Try.prog 55).mapM (m := Sem) fun (f : Field) => do pure (f.offset, ← sizeOf f.type)).run Try.prog w = .ok [(0, 1), (1, 1), (2, 1)].toArray w := fun w => by kernel_rfl
theorem pl72 : ∀ w, ((fldsOf Try.prog 72).mapM (m := Sem) fun (f : Field) => do pure (f.offset, ← sizeOf f.type)).run Try.prog w = .ok [(0, 1), (1, 4), (5, 4), (9, 1), (10, 20)].toArray w := fun w => by kernel_rfl
theorem pl81 : ∀ w, ((fldsOf Try.prog 81).mapM (m := Sem) fun (f : Field) => do pure (f.offset, ← sizeOf f.type)).run Try.prog w = .ok [(0, 1), (1, 48), (49, 1), (50, 1), (51, 1), (52, 1), (53, 1), (54, 1), (55, 4)].toArray w := fun w => by kernel_rfl
theorem pl84 : ∀ w, ((fldsOf Try.prog 84).mapM (m := Sem) fun (f : Field) => do pure (f.offset, ← sizeOf f.type)).run Try.prog w = .ok [(0, 1), (1, 1), (2, 1), (3, 1), (4, 1)].toArray w := fun w => by kernel_rfl
theorem ent3 : ∀ args w, (callFunc 3 args).run Try.prog w = .ok (.enter 3 args) w := run_callFunc_enter Try.func3 (by kernel_rfl) (by kernel_rfl)
theorem ent4 : ∀ args w, (callFunc 4 args).run Try.prog w = .ok (.enter 4 args) w := run_callFunc_enter Try.func4 (by kernel_rfl) (by kernel_rfl)
theorem ent5 : ∀ args w, (callFunc 5 args).run Try.prog w = .ok (.enter 5 args) w := run_callFunc_enter Try.func5 (by kernel_rfl) (by kernel_rfl)
theorem ent6 : ∀ args w, (callFunc 6 args).run Try.prog w = .ok (.enter 6 args) w := run_callFunc_enter Try.func6 (by kernel_rfl) (by kernel_rfl)
theorem ent7 : ∀ args w, (callFunc 7 args).run Try.prog w = .ok (.enter 7 args) w := run_callFunc_enter Try.func7 (by kernel_rfl) (by kernel_rfl)
theorem ent8 : ∀ args w, (callFunc 8 args).run Try.prog w = .ok (.enter 8 args) w := run_callFunc_enter Try.func8 (by kernel_rfl) (by kernel_rfl)
theorem ent9 : ∀ args w, (callFunc 9 args).run Try.prog w = .ok (.enter 9 args) w := run_callFunc_enter Try.func9 (by kernel_rfl) (by kernel_rfl)
theorem ent10 : ∀ args w, (callFunc 10 args).run Try.prog w = .ok (.enter 10 args) w := run_callFunc_enter Try.func10 (by kernel_rfl) (by kernel_rfl)
theorem ent11 : ∀ args w, (callFunc 11 args).run Try.prog w = .ok (.enter 11 args) w := run_callFunc_enter Try.func11 (by kernel_rfl) (by kernel_rfl)
theorem ent12 : ∀ args w, (callFunc 12 args).run Try.prog w = .ok (.enter 12 args) w := run_callFunc_enter Try.func12 (by kernel_rfl) (by kernel_rfl)
theorem ent13 : ∀ args w, (callFunc 13 args).run Try.prog w = .ok (.enter 13 args) w := run_callFunc_enter Try.func13 (by kernel_rfl) (by kernel_rfl)
theorem ent14 : ∀ args w, (callFunc 14 args).run Try.prog w = .ok (.enter 14 args) w := run_callFunc_enter Try.func14 (by kernel_rfl) (by kernel_rfl)
theorem ent15 : ∀ args w, (callFunc 15 args).run Try.prog w = .ok (.enter 15 args) w := run_callFunc_enter Try.func15 (by kernel_rfl) (by kernel_rfl)
theorem ent16 : ∀ args w, (callFunc 16 args).run Try.prog w = .ok (.enter 16 args) w := run_callFunc_enter Try.func16 (by kernel_rfl) (by kernel_rfl)
theorem ent17 : ∀ args w, (callFunc 17 args).run Try.prog w = .ok (.enter 17 args) w := run_callFunc_enter Try.func17 (by kernel_rfl) (by kernel_rfl)
theorem ent18 : ∀ args w, (callFunc 18 args).run Try.prog w = .ok (.enter 18 args) w := run_callFunc_enter Try.func18 (by kernel_rfl) (by kernel_rfl)
theorem ent19 : ∀ args w, (callFunc 19 args).run Try.prog w = .ok (.enter 19 args) w := run_callFunc_enter Try.func19 (by kernel_rfl) (by kernel_rfl)
theorem ent20 : ∀ args w, (callFunc 20 args).run Try.prog w = .ok (.enter 20 args) w := run_callFunc_enter Try.func20 (by kernel_rfl) (by kernel_rfl)
theorem ent21 : ∀ args w, (callFunc 21 args).run Try.prog w = .ok (.enter 21 args) w := run_callFunc_enter Try.func21 (by kernel_rfl) (by kernel_rfl)
theorem ent22 : ∀ args w, (callFunc 22 args).run Try.prog w = .ok (.enter 22 args) w := run_callFunc_enter Try.func22 (by kernel_rfl) (by kernel_rfl)
theorem ent23 : ∀ args w, (callFunc 23 args).run Try.prog w = .ok (.enter 23 args) w := run_callFunc_enter Try.func23 (by kernel_rfl) (by kernel_rfl)
theorem ent24 : ∀ args w, (callFunc 24 args).run Try.prog w = .ok (.enter 24 args) w := run_callFunc_enter Try.func24 (by kernel_rfl) (by kernel_rfl)
theorem ent25 : ∀ args w, (callFunc 25 args).run Try.prog w = .ok (.enter 25 args) w := run_callFunc_enter Try.func25 (by kernel_rfl) (by kernel_rfl)
theorem ent26 : ∀ args w, (callFunc 26 args).run Try.prog w = .ok (.enter 26 args) w := run_callFunc_enter Try.func26 (by kernel_rfl) (by kernel_rfl)
theorem ent27 : ∀ args w, (callFunc 27 args).run Try.prog w = .ok (.enter 27 args) w := run_callFunc_enter Try.func27 (by kernel_rfl) (by kernel_rfl)
theorem ent28 : ∀ args w, (callFunc 28 args).run Try.prog w = .ok (.enter 28 args) w := run_callFunc_enter Try.func28 (by kernel_rfl) (by kernel_rfl)
theorem ent29 : ∀ args w, (callFunc 29 args).run Try.prog w = .ok (.enter 29 args) w := run_callFunc_enter Try.func29 (by kernel_rfl) (by kernel_rfl)
theorem ent30 : ∀ args w, (callFunc 30 args).run Try.prog w = .ok (.enter 30 args) w := run_callFunc_enter Try.func30 (by kernel_rfl) (by kernel_rfl)
theorem ent31 : ∀ args w, (callFunc 31 args).run Try.prog w = .ok (.enter 31 args) w := run_callFunc_enter Try.func31 (by kernel_rfl) (by kernel_rfl)
theorem ent32 : ∀ args w, (callFunc 32 args).run Try.prog w = .ok (.enter 32 args) w := run_callFunc_enter Try.func32 (by kernel_rfl) (by kernel_rfl)
theorem ent33 : ∀ args w, (callFunc 33 args).run Try.prog w = .ok (.enter 33 args) w := run_callFunc_enter Try.func33 (by kernel_rfl) (by kernel_rfl)
theorem ent34 : ∀ args w, (callFunc 34 args).run Try.prog w = .ok (.enter 34 args) w := run_callFunc_enter Try.func34 (by kernel_rfl) (by kernel_rfl)
theorem ent35 : ∀ args w, (callFunc 35 args).run Try.prog w = .ok (.enter 35 args) w := run_callFunc_enter Try.func35 (by kernel_rfl) (by kernel_rfl)
theorem ent36 : ∀ args w, (callFunc 36 args).run Try.prog w = .ok (.enter 36 args) w := run_callFunc_enter Try.func36 (by kernel_rfl) (by kernel_rfl)
theorem ent37 : ∀ args w, (callFunc 37 args).run Try.prog w = .ok (.enter 37 args) w := run_callFunc_enter Try.func37 (by kernel_rfl) (by kernel_rfl)
theorem ent38 : ∀ args w, (callFunc 38 args).run Try.prog w = .ok (.enter 38 args) w := run_callFunc_enter Try.func38 (by kernel_rfl) (by kernel_rfl)
theorem ent39 : ∀ args w, (callFunc 39 args).run Try.prog w = .ok (.enter 39 args) w := run_callFunc_enter Try.func39 (by kernel_rfl) (by kernel_rfl)
theorem ent40 : ∀ args w, (callFunc 40 args).run Try.prog w = .ok (.enter 40 args) w := run_callFunc_enter Try.func40 (by kernel_rfl) (by kernel_rfl)
theorem ent41 : ∀ args w, (callFunc 41 args).run Try.prog w = .ok (.enter 41 args) w := run_callFunc_enter Try.func41 (by kernel_rfl) (by kernel_rfl)
theorem ent42 : ∀ args w, (callFunc 42 args).run Try.prog w = .ok (.enter 42 args) w := run_callFunc_enter Try.func42 (by kernel_rfl) (by kernel_rfl)
theorem ent43 : ∀ args w, (callFunc 43 args).run Try.prog w = .ok (.enter 43 args) w := run_callFunc_enter Try.func43 (by kernel_rfl) (by kernel_rfl)
theorem ent44 : ∀ args w, (callFunc 44 args).run Try.prog w = .ok (.enter 44 args) w := run_callFunc_enter Try.func44 (by kernel_rfl) (by kernel_rfl)
theorem ent45 : ∀ args w, (callFunc 45 args).run Try.prog w = .ok (.enter 45 args) w := run_callFunc_enter Try.func45 (by kernel_rfl) (by kernel_rfl)
theorem ent46 : ∀ args w, (callFunc 46 args).run Try.prog w = .ok (.enter 46 args) w := run_callFunc_enter Try.func46 (by kernel_rfl) (by kernel_rfl)
theorem ent47 : ∀ args w, (callFunc 47 args).run Try.prog w = .ok (.enter 47 args) w := run_callFunc_enter Try.func47 (by kernel_rfl) (by kernel_rfl)
theorem ent48 : ∀ args w, (callFunc 48 args).run Try.prog w = .ok (.enter 48 args) w := run_callFunc_enter Try.func48 (by kernel_rfl) (by kernel_rfl)
theorem ent49 : ∀ args w, (callFunc 49 args).run Try.prog w = .ok (.enter 49 args) w := run_callFunc_enter Try.func49 (by kernel_rfl) (by kernel_rfl)
theorem ent50 : ∀ args w, (callFunc 50 args).run Try.prog w = .ok (.enter 50 args) w := run_callFunc_enter Try.func50 (by kernel_rfl) (by kernel_rfl)
theorem ent51 : ∀ args w, (callFunc 51 args).run Try.prog w = .ok (.enter 51 args) w := run_callFunc_enter Try.func51 (by kernel_rfl) (by kernel_rfl)
theorem ent52 : ∀ args w, (callFunc 52 args).run Try.prog w = .ok (.enter 52 args) w := run_callFunc_enter Try.func52 (by kernel_rfl) (by kernel_rfl)
theorem ent53 : ∀ args w, (callFunc 53 args).run Try.prog w = .ok (.enter 53 args) w := run_callFunc_enter Try.func53 (by kernel_rfl) (by kernel_rfl)
theorem ent54 : ∀ args w, (callFunc 54 args).run Try.prog w = .ok (.enter 54 args) w := run_callFunc_enter Try.func54 (by kernel_rfl) (by kernel_rfl)
theorem ent55 : ∀ args w, (callFunc 55 args).run Try.prog w = .ok (.enter 55 args) w := run_callFunc_enter Try.func55 (by kernel_rfl) (by kernel_rfl)
theorem ent56 : ∀ args w, (callFunc 56 args).run Try.prog w = .ok (.enter 56 args) w := run_callFunc_enter Try.func56 (by kernel_rfl) (by kernel_rfl)
theorem ent57 : ∀ args w, (callFunc 57 args).run Try.prog w = .ok (.enter 57 args) w := run_callFunc_enter Try.func57 (by kernel_rfl) (by kernel_rfl)
theorem ent58 : ∀ args w, (callFunc 58 args).run Try.prog w = .ok (.enter 58 args) w := run_callFunc_enter Try.func58 (by kernel_rfl) (by kernel_rfl)
theorem ent59 : ∀ args w, (callFunc 59 args).run Try.prog w = .ok (.enter 59 args) w := run_callFunc_enter Try.func59 (by kernel_rfl) (by kernel_rfl)
theorem ent60 : ∀ args w, (callFunc 60 args).run Try.prog w = .ok (.enter 60 args) w := run_callFunc_enter Try.func60 (by kernel_rfl) (by kernel_rfl)
theorem ent61 : ∀ args w, (callFunc 61 args).run Try.prog w = .ok (.enter 61 args) w := run_callFunc_enter Try.func61 (by kernel_rfl) (by kernel_rfl)
theorem ent62 : ∀ args w, (callFunc 62 args).run Try.prog w = .ok (.enter 62 args) w := run_callFunc_enter Try.func62 (by kernel_rfl) (by kernel_rfl)
theorem ent63 : ∀ args w, (callFunc 63 args).run Try.prog w = .ok (.enter 63 args) w := run_callFunc_enter Try.func63 (by kernel_rfl) (by kernel_rfl)
theorem ent64 : ∀ args w, (callFunc 64 args).run Try.prog w = .ok (.enter 64 args) w := run_callFunc_enter Try.func64 (by kernel_rfl) (by kernel_rfl)
theorem ent65 : ∀ args w, (callFunc 65 args).run Try.prog w = .ok (.enter 65 args) w := run_callFunc_enter Try.func65 (by kernel_rfl) (by kernel_rfl)
theorem ent66 : ∀ args w, (callFunc 66 args).run Try.prog w = .ok (.enter 66 args) w := run_callFunc_enter Try.func66 (by kernel_rfl) (by kernel_rfl)
theorem ent67 : ∀ args w, (callFunc 67 args).run Try.prog w = .ok (.enter 67 args) w := run_callFunc_enter Try.func67 (by kernel_rfl) (by kernel_rfl)
theorem ent68 : ∀ args w, (callFunc 68 args).run Try.prog w = .ok (.enter 68 args) w := run_callFunc_enter Try.func68 (by kernel_rfl) (by kernel_rfl)
theorem ent69 : ∀ args w, (callFunc 69 args).run Try.prog w = .ok (.enter 69 args) w := run_callFunc_enter Try.func69 (by kernel_rfl) (by kernel_rfl)
theorem ent70 : ∀ args w, (callFunc 70 args).run Try.prog w = .ok (.enter 70 args) w := run_callFunc_enter Try.func70 (by kernel_rfl) (by kernel_rfl)
theorem ent71 : ∀ args w, (callFunc 71 args).run Try.prog w = .ok (.enter 71 args) w := run_callFunc_enter Try.func71 (by kernel_rfl) (by kernel_rfl)
theorem ent72 : ∀ args w, (callFunc 72 args).run Try.prog w = .ok (.enter 72 args) w := run_callFunc_enter Try.func72 (by kernel_rfl) (by kernel_rfl)
theorem ent73 : ∀ args w, (callFunc 73 args).run Try.prog w = .ok (.enter 73 args) w := run_callFunc_enter Try.func73 (by kernel_rfl) (by kernel_rfl)
theorem ent74 : ∀ args w, (callFunc 74 args).run Try.prog w = .ok (.enter 74 args) w := run_callFunc_enter Try.func74 (by kernel_rfl) (by kernel_rfl)
theorem ent75 : ∀ args w, (callFunc 75 args).run Try.prog w = .ok (.enter 75 args) w := run_callFunc_enter Try.func75 (by kernel_rfl) (by kernel_rfl)
theorem ent76 : ∀ args w, (callFunc 76 args).run Try.prog w = .ok (.enter 76 args) w := run_callFunc_enter Try.func76 (by kernel_rfl) (by kernel_rfl)
theorem ent77 : ∀ args w, (callFunc 77 args).run Try.prog w = .ok (.enter 77 args) w := run_callFunc_enter Try.func77 (by kernel_rfl) (by kernel_rfl)
theorem ent78 : ∀ args w, (callFunc 78 args).run Try.prog w = .ok (.enter 78 args) w := run_callFunc_enter Try.func78 (by kernel_rfl) (by kernel_rfl)
theorem ent79 : ∀ args w, (callFunc 79 args).run Try.prog w = .ok (.enter 79 args) w := run_callFunc_enter Try.func79 (by kernel_rfl) (by kernel_rfl)
theorem ent80 : ∀ args w, (callFunc 80 args).run Try.prog w = .ok (.enter 80 args) w := run_callFunc_enter Try.func80 (by kernel_rfl) (by kernel_rfl)
theorem ent81 : ∀ args w, (callFunc 81 args).run Try.prog w = .ok (.enter 81 args) w := run_callFunc_enter Try.func81 (by kernel_rfl) (by kernel_rfl)
theorem ent82 : ∀ args w, (callFunc 82 args).run Try.prog w = .ok (.enter 82 args) w := run_callFunc_enter Try.func82 (by kernel_rfl) (by kernel_rfl)
theorem ent83 : ∀ args w, (callFunc 83 args).run Try.prog w = .ok (.enter 83 args) w := run_callFunc_enter Try.func83 (by kernel_rfl) (by kernel_rfl)
theorem ent84 : ∀ args w, (callFunc 84 args).run Try.prog w = .ok (.enter 84 args) w := run_callFunc_enter Try.func84 (by kernel_rfl) (by kernel_rfl)
theorem ent85 : ∀ args w, (callFunc 85 args).run Try.prog w = .ok (.enter 85 args) w := run_callFunc_enter Try.func85 (by kernel_rfl) (by kernel_rfl)
theorem ent86 : ∀ args w, (callFunc 86 args).run Try.prog w = .ok (.enter 86 args) w := run_callFunc_enter Try.func86 (by kernel_rfl) (by kernel_rfl)
theorem ent87 : ∀ args w, (callFunc 87 args).run Try.prog w = .ok (.enter 87 args) w := run_callFunc_enter Try.func87 (by kernel_rfl) (by kernel_rfl)
theorem ent88 : ∀ args w, (callFunc 88 args).run Try.prog w = .ok (.enter 88 args) w := run_callFunc_enter Try.func88 (by kernel_rfl) (by kernel_rfl)
theorem ent89 : ∀ args w, (callFunc 89 args).run Try.prog w = .ok (.enter 89 args) w := run_callFunc_enter Try.func89 (by kernel_rfl) (by kernel_rfl)
theorem ent90 : ∀ args w, (callFunc 90 args).run Try.prog w = .ok (.enter 90 args) w := run_callFunc_enter Try.func90 (by kernel_rfl) (by kernel_rfl)
theorem ent91 : ∀ args w, (callFunc 91 args).run Try.prog w = .ok (.enter 91 args) w := run_callFunc_enter Try.func91 (by kernel_rfl) (by kernel_rfl)
theorem ent94 : ∀ args w, (callFunc 94 args).run Try.prog w = .ok (.enter 94 args) w := run_callFunc_enter Try.func94 (by kernel_rfl) (by kernel_rfl)
theorem ent95 : ∀ args w, (callFunc 95 args).run Try.prog w = .ok (.enter 95 args) w := run_callFunc_enter Try.func95 (by kernel_rfl) (by kernel_rfl)
theorem ent96 : ∀ args w, (callFunc 96 args).run Try.prog w = .ok (.enter 96 args) w := run_callFunc_enter Try.func96 (by kernel_rfl) (by kernel_rfl)
theorem ent97 : ∀ args w, (callFunc 97 args).run Try.prog w = .ok (.enter 97 args) w := run_callFunc_enter Try.func97 (by kernel_rfl) (by kernel_rfl)
theorem ent98 : ∀ args w, (callFunc 98 args).run Try.prog w = .ok (.enter 98 args) w := run_callFunc_enter Try.func98 (by kernel_rfl) (by kernel_rfl)
theorem ent99 : ∀ args w, (callFunc 99 args).run Try.prog w = .ok (.enter 99 args) w := run_callFunc_enter Try.func99 (by kernel_rfl) (by kernel_rfl)
theorem ent116 : ∀ args w, (callFunc 116 args).run Try.prog w = .ok (.enter 116 args) w := run_callFunc_enter Try.func116 (by kernel_rfl) (by kernel_rfl)
theorem ent117 : ∀ args w, (callFunc 117 args).run Try.prog w = .ok (.enter 117 args) w := run_callFunc_enter Try.func117 (by kernel_rfl) (by kernel_rfl)
theorem ent118 : ∀ args w, (callFunc 118 args).run Try.prog w = .ok (.enter 118 args) w := run_callFunc_enter Try.func118 (by kernel_rfl) (by kernel_rfl)
theorem ent119 : ∀ args w, (callFunc 119 args).run Try.prog w = .ok (.enter 119 args) w := run_callFunc_enter Try.func119 (by kernel_rfl) (by kernel_rfl)
theorem ent120 : ∀ args w, (callFunc 120 args).run Try.prog w = .ok (.enter 120 args) w := run_callFunc_enter Try.func120 (by kernel_rfl) (by kernel_rfl)
end Go.Proofs.Ytlapmbkfmbkdoaa
