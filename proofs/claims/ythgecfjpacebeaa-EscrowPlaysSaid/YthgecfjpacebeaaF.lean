/- Closed facts on the program's types and functions. No condition. -/
import Derived.Test.YthgecfjpacebeaaRows
import Derived.Test.YthgecfjpacebeaaE
namespace Go.Proofs.Ythgecfjpacebeaa
open Go Go.Fw
theorem mix : Try.prog.follows .mixedOrders = true := by kernel_rfl
theorem one3 : oneT Try.prog 3 = true := by kernel_rfl
theorem nz3 : nzT Try.prog 3 = true := by kernel_rfl
theorem sz3 : szT Try.prog 3 1 := by unfold szT; kernel_rfl
theorem one4 : oneT Try.prog 4 = true := by kernel_rfl
theorem nz4 : nzT Try.prog 4 = true := by kernel_rfl
theorem sz4 : szT Try.prog 4 1 := by unfold szT; kernel_rfl
theorem one5 : oneT Try.prog 5 = true := by kernel_rfl
theorem nz5 : nzT Try.prog 5 = true := by kernel_rfl
theorem sz5 : szT Try.prog 5 1 := by unfold szT; kernel_rfl
theorem one9 : oneT Try.prog 9 = true := by kernel_rfl
theorem nz9 : nzT Try.prog 9 = true := by kernel_rfl
theorem sz9 : szT Try.prog 9 1 := by unfold szT; kernel_rfl
theorem one22 : oneT Try.prog 22 = true := by kernel_rfl
theorem nz22 : nzT Try.prog 22 = true := by kernel_rfl
theorem sz22 : szT Try.prog 22 1 := by unfold szT; kernel_rfl
theorem one24 : oneT Try.prog 24 = true := by kernel_rfl
theorem nz24 : nzT Try.prog 24 = true := by kernel_rfl
theorem sz24 : szT Try.prog 24 1 := by unfold szT; kernel_rfl
theorem one26 : oneT Try.prog 26 = true := by kernel_rfl
theorem nz26 : nzT Try.prog 26 = true := by kernel_rfl
theorem sz26 : szT Try.prog 26 1 := by unfold szT; kernel_rfl
theorem one27 : oneT Try.prog 27 = true := by kernel_rfl
theorem nz27 : nzT Try.prog 27 = true := by kernel_rfl
theorem sz27 : szT Try.prog 27 1 := by unfold szT; kernel_rfl
theorem agg29 : aggT Try.prog 29 = true := by kernel_rfl
theorem nz29 : nzT Try.prog 29 = true := by kernel_rfl
theorem sz29 : szT Try.prog 29 4 := by unfold szT; kernel_rfl
theorem one30 : oneT Try.prog 30 = true := by kernel_rfl
theorem nz30 : nzT Try.prog 30 = true := by kernel_rfl
theorem sz30 : szT Try.prog 30 1 := by unfold szT; kernel_rfl
theorem agg34 : aggT Try.prog 34 = true := by kernel_rfl
theorem nz34 : nzT Try.prog 34 = true := by kernel_rfl
theorem sz34 : szT Try.prog 34 8 := by unfold szT; kernel_rfl
theorem agg41 : aggT Try.prog 41 = true := by kernel_rfl
theorem nz41 : nzT Try.prog 41 = true := by kernel_rfl
theorem sz41 : szT Try.prog 41 64 := by unfold szT; kernel_rfl
theorem agg42 : aggT Try.prog 42 = true := by kernel_rfl
theorem nz42 : nzT Try.prog 42 = true := by kernel_rfl
theorem sz42 : szT Try.prog 42 256 := by unfold szT; kernel_rfl
theorem agg44 : aggT Try.prog 44 = true := by kernel_rfl
theorem nz44 : nzT Try.prog 44 = true := by kernel_rfl
theorem sz44 : szT Try.prog 44 388 := by unfold szT; kernel_rfl
theorem one46 : oneT Try.prog 46 = true := by kernel_rfl
theorem nz46 : nzT Try.prog 46 = true := by kernel_rfl
theorem sz46 : szT Try.prog 46 1 := by unfold szT; kernel_rfl
theorem agg49 : aggT Try.prog 49 = true := by kernel_rfl
theorem nz49 : nzT Try.prog 49 = true := by kernel_rfl
theorem sz49 : szT Try.prog 49 10 := by unfold szT; kernel_rfl
theorem one57 : oneT Try.prog 57 = true := by kernel_rfl
theorem nz57 : nzT Try.prog 57 = true := by kernel_rfl
theorem sz57 : szT Try.prog 57 1 := by unfold szT; kernel_rfl
theorem one58 : oneT Try.prog 58 = true := by kernel_rfl
theorem nz58 : nzT Try.prog 58 = true := by kernel_rfl
theorem sz58 : szT Try.prog 58 1 := by unfold szT; kernel_rfl
theorem one60 : oneT Try.prog 60 = true := by kernel_rfl
theorem nz60 : nzT Try.prog 60 = true := by kernel_rfl
theorem sz60 : szT Try.prog 60 1 := by unfold szT; kernel_rfl
theorem one63 : oneT Try.prog 63 = true := by kernel_rfl
theorem nz63 : nzT Try.prog 63 = true := by kernel_rfl
theorem sz63 : szT Try.prog 63 1 := by unfold szT; kernel_rfl
theorem one64 : oneT Try.prog 64 = true := by kernel_rfl
theorem nz64 : nzT Try.prog 64 = true := by kernel_rfl
theorem sz64 : szT Try.prog 64 1 := by unfold szT; kernel_rfl
theorem one82 : oneT Try.prog 82 = true := by kernel_rfl
theorem nz82 : nzT Try.prog 82 = true := by kernel_rfl
theorem sz82 : szT Try.prog 82 1 := by unfold szT; kernel_rfl
theorem one85 : oneT Try.prog 85 = true := by kernel_rfl
theorem nz85 : nzT Try.prog 85 = true := by kernel_rfl
theorem sz85 : szT Try.prog 85 1 := by unfold szT; kernel_rfl
theorem agg91 : aggT Try.prog 91 = true := by kernel_rfl
theorem nz91 : nzT Try.prog 91 = true := by kernel_rfl
theorem sz91 : szT Try.prog 91 14 := by unfold szT; kernel_rfl
theorem one95 : oneT Try.prog 95 = true := by kernel_rfl
theorem nz95 : nzT Try.prog 95 = true := by kernel_rfl
theorem sz95 : szT Try.prog 95 1 := by unfold szT; kernel_rfl
theorem one96 : oneT Try.prog 96 = true := by kernel_rfl
theorem nz96 : nzT Try.prog 96 = true := by kernel_rfl
theorem sz96 : szT Try.prog 96 1 := by unfold szT; kernel_rfl
theorem agg98 : aggT Try.prog 98 = true := by kernel_rfl
theorem nz98 : nzT Try.prog 98 = true := by kernel_rfl
theorem sz98 : szT Try.prog 98 1 := by unfold szT; kernel_rfl
theorem agg100 : aggT Try.prog 100 = true := by kernel_rfl
theorem nz100 : nzT Try.prog 100 = true := by kernel_rfl
theorem sz100 : szT Try.prog 100 6 := by unfold szT; kernel_rfl
theorem agg105 : aggT Try.prog 105 = true := by kernel_rfl
theorem nz105 : nzT Try.prog 105 = true := by kernel_rfl
theorem sz105 : szT Try.prog 105 5 := by unfold szT; kernel_rfl
theorem one107 : oneT Try.prog 107 = true := by kernel_rfl
theorem nz107 : nzT Try.prog 107 = true := by kernel_rfl
theorem sz107 : szT Try.prog 107 1 := by unfold szT; kernel_rfl
theorem one113 : oneT Try.prog 113 = true := by kernel_rfl
theorem nz113 : nzT Try.prog 113 = true := by kernel_rfl
theorem sz113 : szT Try.prog 113 1 := by unfold szT; kernel_rfl
theorem agg115 : aggT Try.prog 115 = true := by kernel_rfl
theorem nz115 : nzT Try.prog 115 = true := by kernel_rfl
theorem sz115 : szT Try.prog 115 1 := by unfold szT; kernel_rfl
theorem agg118 : aggT Try.prog 118 = true := by kernel_rfl
theorem sz118 : szT Try.prog 118 0 := by unfold szT; kernel_rfl
theorem agg123 : aggT Try.prog 123 = true := by kernel_rfl
theorem nz123 : nzT Try.prog 123 = true := by kernel_rfl
theorem sz123 : szT Try.prog 123 8 := by unfold szT; kernel_rfl
theorem one133 : oneT Try.prog 133 = true := by kernel_rfl
theorem nz133 : nzT Try.prog 133 = true := by kernel_rfl
theorem sz133 : szT Try.prog 133 1 := by unfold szT; kernel_rfl
theorem one136 : oneT Try.prog 136 = true := by kernel_rfl
theorem nz136 : nzT Try.prog 136 = true := by kernel_rfl
theorem sz136 : szT Try.prog 136 1 := by unfold szT; kernel_rfl
theorem agg139 : aggT Try.prog 139 = true := by kernel_rfl
theorem nz139 : nzT Try.prog 139 = true := by kernel_rfl
theorem sz139 : szT Try.prog 139 7 := by unfold szT; kernel_rfl
theorem one143 : oneT Try.prog 143 = true := by kernel_rfl
theorem nz143 : nzT Try.prog 143 = true := by kernel_rfl
theorem sz143 : szT Try.prog 143 1 := by unfold szT; kernel_rfl
theorem ze3 : zeT Try.prog 3 (.int .i64 0) := by unfold zeT; kernel_rfl
theorem ze4 : zeT Try.prog 4 (.bool false) := by unfold zeT; kernel_rfl
theorem ze5 : zeT Try.prog 5 (.int .u8 0) := by unfold zeT; kernel_rfl
theorem ze27 : zeT Try.prog 27 (.int .u64 0) := by unfold zeT; kernel_rfl
theorem ze29 : zeT Try.prog 29 (.agg #[(.int .u64 0), (.int .u64 0), (.int .u64 0), (.int .u64 0)]) := by unfold zeT; kernel_rfl
theorem ze44 : zeT Try.prog 44 (.agg #[(.bool false), (.bool false), (.bool false), (.bool false), (.bool false), (.bool false), (.bool false), (.bool false), (.bool false), (.bool false), (.bool false), (.bool false), (.bool false), (.bool false), (.bool false), (.bool false), (.bool false), (.bool false), (.bool false), (.bool false), (.bool false), (.bool false), (.bool false), (.bool false), (.bool false), (.bool false), (.bool false), (.bool false), (.bool false), (.bool false), (.bool false), (.bool false), (.bool false), (.bool false), (.bool false), (.bool false), (.bool false), (.bool false), (.bool false), (.bool false), (.bool false), (.bool false), (.bool false), (.bool false), (.bool false), (.bool false), (.bool false), (.bool false), (.bool false), (.bool false), (.bool false), (.bool false), (.bool false), (.bool false), (.bool false), (.bool false), (.bool false), (.bool false), (.bool false), (.bool false), (.bool false), (.bool false), (.bool false), (.bool false), (.bool false), (.bool false), (.bool false), (.bool false), (.bool false), (.bool false), (.bool false), (.bool false), (.bool false), (.bool false), (.bool false), (.bool false), (.bool false), (.bool false), (.bool false), (.bool false), (.bool false), (.bool false), (.bool false), (.bool false), (.bool false), (.bool false), (.bool false), (.bool false), (.bool false), (.bool false), (.bool false), (.bool false), (.bool false), (.bool false), (.bool false), (.bool false), (.bool false), (.bool false), (.bool false), (.bool false), (.bool false), (.bool false), (.bool false), (.bool false), (.bool false), (.bool false), (.bool false), (.bool false), (.bool false), (.bool false), (.bool false), (.bool false), (.bool false), (.bool false), (.bool false), (.bool false), (.bool false), (.bool false), (.bool false), (.bool false), (.bool false), (.bool false), (.bool false), (.bool false), (.bool false), (.bool false), (.bool false), (.bool false), (.int .u64 0), (.int .u64 0), (.int .u64 0), (.int .u64 0), (.int .u64 0), (.int .u64 0), (.int .u64 0), (.int .u64 0), (.int .u64 0), (.int .u64 0), (.int .u64 0), (.int .u64 0), (.int .u64 0), (.int .u64 0), (.int .u64 0), (.int .u64 0), (.int .u64 0), (.int .u64 0), (.int .u64 0), (.int .u64 0), (.int .u64 0), (.int .u64 0), (.int .u64 0), (.int .u64 0), (.int .u64 0), (.int .u64 0), (.int .u64 0), (.int .u64 0), (.int .u64 0), (.int .u64 0), (.int .u64 0), (.int .u64 0), (.int .u64 0), (.int .u64 0), (.int .u64 0), (.int .u64 0), (.int .u64 0), (.int .u64 0), (.int .u64 0), (.int .u64 0), (.int .u64 0), (.int .u64 0), (.int .u64 0), (.int .u64 0), (.int .u64 0), (.int .u64 0), (.int .u64 0), (.int .u64 0), (.int .u64 0), (.int .u64 0), (.int .u64 0), (.int .u64 0), (.int .u64 0), (.int .u64 0), (.int .u64 0), (.int .u64 0), (.int .u64 0), (.int .u64 0), (.int .u64 0), (.int .u64 0), (.int .u64 0), (.int .u64 0), (.int .u64 0), (.int .u64 0), (.int .u64 0), (.int .u64 0), (.int .u64 0), (.int .u64 0), (.int .u64 0), (.int .u64 0), (.int .u64 0), (.int .u64 0), (.int .u64 0), (.int .u64 0), (.int .u64 0), (.int .u64 0), (.int .u64 0), (.int .u64 0), (.int .u64 0), (.int .u64 0), (.int .u64 0), (.int .u64 0), (.int .u64 0), (.int .u64 0), (.int .u64 0), (.int .u64 0), (.int .u64 0), (.int .u64 0), (.int .u64 0), (.int .u64 0), (.int .u64 0), (.int .u64 0), (.int .u64 0), (.int .u64 0), (.int .u64 0), (.int .u64 0), (.int .u64 0), (.int .u64 0), (.int .u64 0), (.int .u64 0), (.int .u64 0), (.int .u64 0), (.int .u64 0), (.int .u64 0), (.int .u64 0), (.int .u64 0), (.int .u64 0), (.int .u64 0), (.int .u64 0), (.int .u64 0), (.int .u64 0), (.int .u64 0), (.int .u64 0), (.int .u64 0), (.int .u64 0), (.int .u64 0), (.int .u64 0), (.int .u64 0), (.int .u64 0), (.int .u64 0), (.int .u64 0), (.int .u64 0), (.int .u64 0), (.int .u64 0), (.int .u64 0), (.int .u64 0), (.int .u64 0), (.int .u64 0), (.int .u64 0), (.int .u64 0), (.int .u64 0), (.int .u64 0), (.int .u64 0), (.int .u64 0), (.int .u64 0), (.int .u64 0), (.int .u64 0), (.int .u64 0), (.int .u64 0), (.int .u64 0), (.int .u64 0), (.int .u64 0), (.int .u64 0), (.int .u64 0), (.int .u64 0), (.int .u64 0), (.int .u64 0), (.int .u64 0), (.int .u64 0), (.int .u64 0), (.int .u64 0), (.int .u64 0), (.int .u64 0), (.int .u64 0), (.int .u64 0), (.int .u64 0), (.int .u64 0), (.int .u64 0), (.int .u64 0), (.int .u64 0), (.int .u64 0), (.int .u64 0), (.int .u64 0), (.int .u64 0), (.int .u64 0), (.int .u64 0), (.int .u64 0), (.int .u64 0), (.int .u64 0), (.int .u64 0), (.int .u64 0), (.int .u64 0), (.int .u64 0), (.int .u64 0), (.int .u64 0), (.int .u64 0), (.int .u64 0), (.int .u64 0), (.int .u64 0), (.int .u64 0), (.int .u64 0), (.int .u64 0), (.int .u64 0), (.int .u64 0), (.int .u64 0), (.int .u64 0), (.int .u64 0), (.int .u64 0), (.int .u64 0), (.int .u64 0), (.int .u64 0), (.int .u64 0), (.int .u64 0), (.int .u64 0), (.int .u64 0), (.int .u64 0), (.int .u64 0), (.int .u64 0), (.int .u64 0), (.int .u64 0), (.int .u64 0), (.int .u64 0), (.int .u64 0), (.int .u64 0), (.int .u64 0), (.int .u64 0), (.int .u64 0), (.int .u64 0), (.int .u64 0), (.int .u64 0), (.int .u64 0), (.int .u64 0), (.int .u64 0), (.int .u64 0), (.int .u64 0), (.int .u64 0), (.int .u64 0), (.int .u64 0), (.int .u64 0), (.int .u64 0), (.int .u64 0), (.int .u64 0), (.int .u64 0), (.int .u64 0), (.int .u64 0), (.int .u64 0), (.int .u64 0), (.int .u64 0), (.int .u64 0), (.int .u64 0), (.int .u64 0), (.int .u64 0), (.int .u64 0), (.int .u64 0), (.int .u64 0), (.int .u64 0), (.int .u64 0), (.int .u64 0), (.int .u64 0), (.int .u64 0), (.int .u64 0), (.int .u64 0), (.int .u64 0), (.int .u64 0), (.int .u64 0), (.int .u64 0), (.int .u64 0), (.int .u64 0), (.int .u64 0), (.int .u64 0), (.int .u64 0), (.int .u64 0), (.int .u64 0), (.int .u64 0), (.int .u64 0), (.int .u64 0), (.int .u64 0), (.int .u64 0), (.int .u64 0), (.int .u64 0)]) := by unfold zeT; kernel_rfl
theorem ze98 : zeT Try.prog 98 (.agg #[(.map none)]) := by unfold zeT; kernel_rfl
theorem ze100 : zeT Try.prog 100 (.agg #[(.map none), (.map none), (.int .u64 0), (.int .u64 0), (.int .u64 0), (.int .u64 0)]) := by unfold zeT; kernel_rfl
theorem ze105 : zeT Try.prog 105 (.agg #[(.bool false), (.int .u64 0), (.int .u64 0), (.int .u64 0), (.int .u64 0)]) := by unfold zeT; kernel_rfl
theorem ze115 : zeT Try.prog 115 (.agg #[(.slice none 0 0)]) := by unfold zeT; kernel_rfl
theorem ze118 : zeT Try.prog 118 (.agg #[]) := by unfold zeT; kernel_rfl
theorem ze123 : zeT Try.prog 123 (.agg #[(.int .u64 0), (.int .u64 0), (.int .u64 0), (.int .u64 0), (.int .u64 0), (.int .u64 0), (.int .u64 0), (.int .u64 0)]) := by unfold zeT; kernel_rfl
theorem ze139 : zeT Try.prog 139 (.agg #[(.int .i64 0), (.int .i64 0), (.int .i64 0), (.int .u64 0), (.int .u64 0), (.int .u64 0), (.int .u64 0)]) := by unfold zeT; kernel_rfl
theorem inf3 : infT Try.prog 3 (.int .i64 0) 1 8 := by unfold infT; kernel_rfl
theorem inf4 : infT Try.prog 4 (.bool false) 1 1 := by unfold infT; kernel_rfl
theorem inf5 : infT Try.prog 5 (.int .u8 0) 1 1 := by unfold infT; kernel_rfl
theorem inf24 : infT Try.prog 24 (.pointer none) 1 8 := by unfold infT; kernel_rfl
theorem inf29 : infT Try.prog 29 (.agg #[(.int .u64 0), (.int .u64 0), (.int .u64 0), (.int .u64 0)]) 4 32 := by unfold infT; kernel_rfl
theorem inf34 : infT Try.prog 34 (.agg #[(.int .i64 0), (.int .i64 0), (.int .i64 0), (.int .i64 0), (.int .u64 0), (.int .u64 0), (.int .u64 0), (.int .u64 0)]) 8 64 := by unfold infT; kernel_rfl
theorem inf58 : infT Try.prog 58 (.pointer none) 1 8 := by unfold infT; kernel_rfl
theorem inf64 : infT Try.prog 64 (.slice none 0 0) 1 24 := by unfold infT; kernel_rfl
theorem inf82 : infT Try.prog 82 (.slice none 0 0) 1 24 := by unfold infT; kernel_rfl
theorem inf139 : infT Try.prog 139 (.agg #[(.int .i64 0), (.int .i64 0), (.int .i64 0), (.int .u64 0), (.int .u64 0), (.int .u64 0), (.int .u64 0)]) 7 56 := by unfold infT; kernel_rfl
theorem pl98 : ∀ w, ((fldsOf Try.prog 98).mapM (m := Sem) fun (f : Field) => do pure (f.offset, ← sizeOf f.type)).run Try.prog w = .ok [(0, 1)].toArray w := fun w => by kernel_rfl
theorem pl100 : ∀ w, ((fldsOf Try.prog 100).mapM (m := Sem) fun (f : Field) => do pure (f.offset, ← sizeOf f.type)).run Try.prog w = .ok [(0, 1), (1, 1), (2, 4)].toArray w := fun w => by kernel_rfl
theorem pl105 : ∀ w, ((fldsOf Try.prog 105).mapM (m := Sem) fun (f : Field) => do pure (f.offset, ← sizeOf f.type)).run Try.prog w = .ok [(0, 1), (1, 4)].toArray w := fun w => by kernel_rfl
theorem pl115 : ∀ w, ((fldsOf Try.prog 115).mapM (m := Sem) fun (f : Field) => do pure (f.offset, ← sizeOf f.type)).run Try.prog w = .ok [(0, 1)].toArray w := fun w => by kernel_rfl
theorem pl118 : ∀ w, ((fldsOf Try.prog 118).mapM (m := Sem) fun (f : Field) => do pure (f.offset, ← sizeOf f.type)).run Try.prog w = .ok [].toArray w := fun w => by kernel_rfl
theorem pl139 : ∀ w, ((fldsOf Try.prog 139).mapM (m := Sem) fun (f : Field) => do pure (f.offset, ← sizeOf f.type)).run Try.prog w = .ok [(0, 1), (1, 1), (2, 1), (3, 4)].toArray w := fun w => by kernel_rfl
theorem ent3 : ∀ args w, (callFunc 3 args).run Try.prog w = .ok (.enter 3 args) w := run_callFunc_enter Try.func3 (by kernel_rfl) (by kernel_rfl)
theorem ent4 : ∀ args w, (callFunc 4 args).run Try.prog w = .ok (.enter 4 args) w := run_callFunc_enter Try.func4 (by kernel_rfl) (by kernel_rfl)
theorem ent5 : ∀ args w, (callFunc 5 args).run Try.prog w = .ok (.enter 5 args) w := run_callFunc_enter Try.func5 (by kernel_rfl) (by kernel_rfl)
theorem ent6 : ∀ args w, (callFunc 6 args).run Try.prog w = .ok (.enter 6 args) w := run_callFunc_enter Try.func6 (by kernel_rfl) (by kernel_rfl)
theorem ent7 : ∀ args w, (callFunc 7 args).run Try.prog w = .ok (.enter 7 args) w := run_callFunc_enter Try.func7 (by kernel_rfl) (by kernel_rfl)
theorem ent8 : ∀ args w, (callFunc 8 args).run Try.prog w = .ok (.enter 8 args) w := run_callFunc_enter Try.func8 (by kernel_rfl) (by kernel_rfl)
theorem ent9 : ∀ args w, (callFunc 9 args).run Try.prog w = .ok (.enter 9 args) w := run_callFunc_enter Try.func9 (by kernel_rfl) (by kernel_rfl)
theorem ent10 : ∀ args w, (callFunc 10 args).run Try.prog w = .ok (.enter 10 args) w := run_callFunc_enter Try.func10 (by kernel_rfl) (by kernel_rfl)
theorem ent11 : ∀ args w, (callFunc 11 args).run Try.prog w = .ok (.enter 11 args) w := run_callFunc_enter Try.func11 (by kernel_rfl) (by kernel_rfl)
theorem ent12 : ∀ args w, (callFunc 12 args).run Try.prog w = .ok (.enter 12 args) w := run_callFunc_enter Try.func12 (by kernel_rfl) (by kernel_rfl)
theorem ent13 : ∀ args w, (callFunc 13 args).run Try.prog w = .ok (.enter 13 args) w := run_callFunc_enter Try.func13 (by kernel_rfl) (by kernel_rfl)
theorem ent14 : ∀ args w, (callFunc 14 args).run Try.prog w = .ok (.enter 14 args) w := run_callFunc_enter Try.func14 (by kernel_rfl) (by kernel_rfl)
theorem ent15 : ∀ args w, (callFunc 15 args).run Try.prog w = .ok (.enter 15 args) w := run_callFunc_enter Try.func15 (by kernel_rfl) (by kernel_rfl)
theorem ent16 : ∀ args w, (callFunc 16 args).run Try.prog w = .ok (.enter 16 args) w := run_callFunc_enter Try.func16 (by kernel_rfl) (by kernel_rfl)
theorem ent17 : ∀ args w, (callFunc 17 args).run Try.prog w = .ok (.enter 17 args) w := run_callFunc_enter Try.func17 (by kernel_rfl) (by kernel_rfl)
theorem ent18 : ∀ args w, (callFunc 18 args).run Try.prog w = .ok (.enter 18 args) w := run_callFunc_enter Try.func18 (by kernel_rfl) (by kernel_rfl)
theorem ent19 : ∀ args w, (callFunc 19 args).run Try.prog w = .ok (.enter 19 args) w := run_callFunc_enter Try.func19 (by kernel_rfl) (by kernel_rfl)
theorem ent20 : ∀ args w, (callFunc 20 args).run Try.prog w = .ok (.enter 20 args) w := run_callFunc_enter Try.func20 (by kernel_rfl) (by kernel_rfl)
theorem ent21 : ∀ args w, (callFunc 21 args).run Try.prog w = .ok (.enter 21 args) w := run_callFunc_enter Try.func21 (by kernel_rfl) (by kernel_rfl)
theorem ent22 : ∀ args w, (callFunc 22 args).run Try.prog w = .ok (.enter 22 args) w := run_callFunc_enter Try.func22 (by kernel_rfl) (by kernel_rfl)
theorem ent23 : ∀ args w, (callFunc 23 args).run Try.prog w = .ok (.enter 23 args) w := run_callFunc_enter Try.func23 (by kernel_rfl) (by kernel_rfl)
theorem ent24 : ∀ args w, (callFunc 24 args).run Try.prog w = .ok (.enter 24 args) w := run_callFunc_enter Try.func24 (by kernel_rfl) (by kernel_rfl)
theorem ent25 : ∀ args w, (callFunc 25 args).run Try.prog w = .ok (.enter 25 args) w := run_callFunc_enter Try.func25 (by kernel_rfl) (by kernel_rfl)
theorem ent26 : ∀ args w, (callFunc 26 args).run Try.prog w = .ok (.enter 26 args) w := run_callFunc_enter Try.func26 (by kernel_rfl) (by kernel_rfl)
theorem ent27 : ∀ args w, (callFunc 27 args).run Try.prog w = .ok (.enter 27 args) w := run_callFunc_enter Try.func27 (by kernel_rfl) (by kernel_rfl)
theorem ent28 : ∀ args w, (callFunc 28 args).run Try.prog w = .ok (.enter 28 args) w := run_callFunc_enter Try.func28 (by kernel_rfl) (by kernel_rfl)
theorem ent29 : ∀ args w, (callFunc 29 args).run Try.prog w = .ok (.enter 29 args) w := run_callFunc_enter Try.func29 (by kernel_rfl) (by kernel_rfl)
theorem ent30 : ∀ args w, (callFunc 30 args).run Try.prog w = .ok (.enter 30 args) w := run_callFunc_enter Try.func30 (by kernel_rfl) (by kernel_rfl)
theorem ent31 : ∀ args w, (callFunc 31 args).run Try.prog w = .ok (.enter 31 args) w := run_callFunc_enter Try.func31 (by kernel_rfl) (by kernel_rfl)
theorem ent32 : ∀ args w, (callFunc 32 args).run Try.prog w = .ok (.enter 32 args) w := run_callFunc_enter Try.func32 (by kernel_rfl) (by kernel_rfl)
theorem ent33 : ∀ args w, (callFunc 33 args).run Try.prog w = .ok (.enter 33 args) w := run_callFunc_enter Try.func33 (by kernel_rfl) (by kernel_rfl)
theorem ent34 : ∀ args w, (callFunc 34 args).run Try.prog w = .ok (.enter 34 args) w := run_callFunc_enter Try.func34 (by kernel_rfl) (by kernel_rfl)
theorem ent35 : ∀ args w, (callFunc 35 args).run Try.prog w = .ok (.enter 35 args) w := run_callFunc_enter Try.func35 (by kernel_rfl) (by kernel_rfl)
theorem ent36 : ∀ args w, (callFunc 36 args).run Try.prog w = .ok (.enter 36 args) w := run_callFunc_enter Try.func36 (by kernel_rfl) (by kernel_rfl)
theorem ent37 : ∀ args w, (callFunc 37 args).run Try.prog w = .ok (.enter 37 args) w := run_callFunc_enter Try.func37 (by kernel_rfl) (by kernel_rfl)
theorem ent38 : ∀ args w, (callFunc 38 args).run Try.prog w = .ok (.enter 38 args) w := run_callFunc_enter Try.func38 (by kernel_rfl) (by kernel_rfl)
theorem ent39 : ∀ args w, (callFunc 39 args).run Try.prog w = .ok (.enter 39 args) w := run_callFunc_enter Try.func39 (by kernel_rfl) (by kernel_rfl)
theorem ent40 : ∀ args w, (callFunc 40 args).run Try.prog w = .ok (.enter 40 args) w := run_callFunc_enter Try.func40 (by kernel_rfl) (by kernel_rfl)
theorem ent41 : ∀ args w, (callFunc 41 args).run Try.prog w = .ok (.enter 41 args) w := run_callFunc_enter Try.func41 (by kernel_rfl) (by kernel_rfl)
theorem ent42 : ∀ args w, (callFunc 42 args).run Try.prog w = .ok (.enter 42 args) w := run_callFunc_enter Try.func42 (by kernel_rfl) (by kernel_rfl)
theorem ent43 : ∀ args w, (callFunc 43 args).run Try.prog w = .ok (.enter 43 args) w := run_callFunc_enter Try.func43 (by kernel_rfl) (by kernel_rfl)
theorem ent44 : ∀ args w, (callFunc 44 args).run Try.prog w = .ok (.enter 44 args) w := run_callFunc_enter Try.func44 (by kernel_rfl) (by kernel_rfl)
theorem ent45 : ∀ args w, (callFunc 45 args).run Try.prog w = .ok (.enter 45 args) w := run_callFunc_enter Try.func45 (by kernel_rfl) (by kernel_rfl)
theorem ent46 : ∀ args w, (callFunc 46 args).run Try.prog w = .ok (.enter 46 args) w := run_callFunc_enter Try.func46 (by kernel_rfl) (by kernel_rfl)
theorem ent47 : ∀ args w, (callFunc 47 args).run Try.prog w = .ok (.enter 47 args) w := run_callFunc_enter Try.func47 (by kernel_rfl) (by kernel_rfl)
theorem ent48 : ∀ args w, (callFunc 48 args).run Try.prog w = .ok (.enter 48 args) w := run_callFunc_enter Try.func48 (by kernel_rfl) (by kernel_rfl)
theorem ent49 : ∀ args w, (callFunc 49 args).run Try.prog w = .ok (.enter 49 args) w := run_callFunc_enter Try.func49 (by kernel_rfl) (by kernel_rfl)
theorem ent50 : ∀ args w, (callFunc 50 args).run Try.prog w = .ok (.enter 50 args) w := run_callFunc_enter Try.func50 (by kernel_rfl) (by kernel_rfl)
theorem ent51 : ∀ args w, (callFunc 51 args).run Try.prog w = .ok (.enter 51 args) w := run_callFunc_enter Try.func51 (by kernel_rfl) (by kernel_rfl)
theorem ent52 : ∀ args w, (callFunc 52 args).run Try.prog w = .ok (.enter 52 args) w := run_callFunc_enter Try.func52 (by kernel_rfl) (by kernel_rfl)
theorem ent53 : ∀ args w, (callFunc 53 args).run Try.prog w = .ok (.enter 53 args) w := run_callFunc_enter Try.func53 (by kernel_rfl) (by kernel_rfl)
theorem ent54 : ∀ args w, (callFunc 54 args).run Try.prog w = .ok (.enter 54 args) w := run_callFunc_enter Try.func54 (by kernel_rfl) (by kernel_rfl)
theorem ent55 : ∀ args w, (callFunc 55 args).run Try.prog w = .ok (.enter 55 args) w := run_callFunc_enter Try.func55 (by kernel_rfl) (by kernel_rfl)
theorem ent56 : ∀ args w, (callFunc 56 args).run Try.prog w = .ok (.enter 56 args) w := run_callFunc_enter Try.func56 (by kernel_rfl) (by kernel_rfl)
theorem ent57 : ∀ args w, (callFunc 57 args).run Try.prog w = .ok (.enter 57 args) w := run_callFunc_enter Try.func57 (by kernel_rfl) (by kernel_rfl)
theorem ent58 : ∀ args w, (callFunc 58 args).run Try.prog w = .ok (.enter 58 args) w := run_callFunc_enter Try.func58 (by kernel_rfl) (by kernel_rfl)
theorem ent59 : ∀ args w, (callFunc 59 args).run Try.prog w = .ok (.enter 59 args) w := run_callFunc_enter Try.func59 (by kernel_rfl) (by kernel_rfl)
theorem ent60 : ∀ args w, (callFunc 60 args).run Try.prog w = .ok (.enter 60 args) w := run_callFunc_enter Try.func60 (by kernel_rfl) (by kernel_rfl)
theorem ent61 : ∀ args w, (callFunc 61 args).run Try.prog w = .ok (.enter 61 args) w := run_callFunc_enter Try.func61 (by kernel_rfl) (by kernel_rfl)
theorem ent62 : ∀ args w, (callFunc 62 args).run Try.prog w = .ok (.enter 62 args) w := run_callFunc_enter Try.func62 (by kernel_rfl) (by kernel_rfl)
theorem ent63 : ∀ args w, (callFunc 63 args).run Try.prog w = .ok (.enter 63 args) w := run_callFunc_enter Try.func63 (by kernel_rfl) (by kernel_rfl)
theorem ent64 : ∀ args w, (callFunc 64 args).run Try.prog w = .ok (.enter 64 args) w := run_callFunc_enter Try.func64 (by kernel_rfl) (by kernel_rfl)
theorem ent65 : ∀ args w, (callFunc 65 args).run Try.prog w = .ok (.enter 65 args) w := run_callFunc_enter Try.func65 (by kernel_rfl) (by kernel_rfl)
theorem ent66 : ∀ args w, (callFunc 66 args).run Try.prog w = .ok (.enter 66 args) w := run_callFunc_enter Try.func66 (by kernel_rfl) (by kernel_rfl)
theorem ent67 : ∀ args w, (callFunc 67 args).run Try.prog w = .ok (.enter 67 args) w := run_callFunc_enter Try.func67 (by kernel_rfl) (by kernel_rfl)
theorem ent68 : ∀ args w, (callFunc 68 args).run Try.prog w = .ok (.enter 68 args) w := run_callFunc_enter Try.func68 (by kernel_rfl) (by kernel_rfl)
theorem ent69 : ∀ args w, (callFunc 69 args).run Try.prog w = .ok (.enter 69 args) w := run_callFunc_enter Try.func69 (by kernel_rfl) (by kernel_rfl)
theorem ent70 : ∀ args w, (callFunc 70 args).run Try.prog w = .ok (.enter 70 args) w := run_callFunc_enter Try.func70 (by kernel_rfl) (by kernel_rfl)
theorem ent71 : ∀ args w, (callFunc 71 args).run Try.prog w = .ok (.enter 71 args) w := run_callFunc_enter Try.func71 (by kernel_rfl) (by kernel_rfl)
theorem ent72 : ∀ args w, (callFunc 72 args).run Try.prog w = .ok (.enter 72 args) w := run_callFunc_enter Try.func72 (by kernel_rfl) (by kernel_rfl)
theorem ent73 : ∀ args w, (callFunc 73 args).run Try.prog w = .ok (.enter 73 args) w := run_callFunc_enter Try.func73 (by kernel_rfl) (by kernel_rfl)
theorem ent74 : ∀ args w, (callFunc 74 args).run Try.prog w = .ok (.enter 74 args) w := run_callFunc_enter Try.func74 (by kernel_rfl) (by kernel_rfl)
theorem ent75 : ∀ args w, (callFunc 75 args).run Try.prog w = .ok (.enter 75 args) w := run_callFunc_enter Try.func75 (by kernel_rfl) (by kernel_rfl)
theorem ent76 : ∀ args w, (callFunc 76 args).run Try.prog w = .ok (.enter 76 args) w := run_callFunc_enter Try.func76 (by kernel_rfl) (by kernel_rfl)
theorem ent77 : ∀ args w, (callFunc 77 args).run Try.prog w = .ok (.enter 77 args) w := run_callFunc_enter Try.func77 (by kernel_rfl) (by kernel_rfl)
theorem ent78 : ∀ args w, (callFunc 78 args).run Try.prog w = .ok (.enter 78 args) w := run_callFunc_enter Try.func78 (by kernel_rfl) (by kernel_rfl)
theorem ent79 : ∀ args w, (callFunc 79 args).run Try.prog w = .ok (.enter 79 args) w := run_callFunc_enter Try.func79 (by kernel_rfl) (by kernel_rfl)
theorem ent80 : ∀ args w, (callFunc 80 args).run Try.prog w = .ok (.enter 80 args) w := run_callFunc_enter Try.func80 (by kernel_rfl) (by kernel_rfl)
theorem ent81 : ∀ args w, (callFunc 81 args).run Try.prog w = .ok (.enter 81 args) w := run_callFunc_enter Try.func81 (by kernel_rfl) (by kernel_rfl)
theorem ent82 : ∀ args w, (callFunc 82 args).run Try.prog w = .ok (.enter 82 args) w := run_callFunc_enter Try.func82 (by kernel_rfl) (by kernel_rfl)
theorem ent83 : ∀ args w, (callFunc 83 args).run Try.prog w = .ok (.enter 83 args) w := run_callFunc_enter Try.func83 (by kernel_rfl) (by kernel_rfl)
theorem ent84 : ∀ args w, (callFunc 84 args).run Try.prog w = .ok (.enter 84 args) w := run_callFunc_enter Try.func84 (by kernel_rfl) (by kernel_rfl)
theorem ent85 : ∀ args w, (callFunc 85 args).run Try.prog w = .ok (.enter 85 args) w := run_callFunc_enter Try.func85 (by kernel_rfl) (by kernel_rfl)
theorem ent86 : ∀ args w, (callFunc 86 args).run Try.prog w = .ok (.enter 86 args) w := run_callFunc_enter Try.func86 (by kernel_rfl) (by kernel_rfl)
theorem ent87 : ∀ args w, (callFunc 87 args).run Try.prog w = .ok (.enter 87 args) w := run_callFunc_enter Try.func87 (by kernel_rfl) (by kernel_rfl)
theorem ent88 : ∀ args w, (callFunc 88 args).run Try.prog w = .ok (.enter 88 args) w := run_callFunc_enter Try.func88 (by kernel_rfl) (by kernel_rfl)
theorem ent89 : ∀ args w, (callFunc 89 args).run Try.prog w = .ok (.enter 89 args) w := run_callFunc_enter Try.func89 (by kernel_rfl) (by kernel_rfl)
theorem ent90 : ∀ args w, (callFunc 90 args).run Try.prog w = .ok (.enter 90 args) w := run_callFunc_enter Try.func90 (by kernel_rfl) (by kernel_rfl)
theorem ent91 : ∀ args w, (callFunc 91 args).run Try.prog w = .ok (.enter 91 args) w := run_callFunc_enter Try.func91 (by kernel_rfl) (by kernel_rfl)
theorem ent92 : ∀ args w, (callFunc 92 args).run Try.prog w = .ok (.enter 92 args) w := run_callFunc_enter Try.func92 (by kernel_rfl) (by kernel_rfl)
theorem ent93 : ∀ args w, (callFunc 93 args).run Try.prog w = .ok (.enter 93 args) w := run_callFunc_enter Try.func93 (by kernel_rfl) (by kernel_rfl)
theorem ent94 : ∀ args w, (callFunc 94 args).run Try.prog w = .ok (.enter 94 args) w := run_callFunc_enter Try.func94 (by kernel_rfl) (by kernel_rfl)
theorem ent97 : ∀ args w, (callFunc 97 args).run Try.prog w = .ok (.enter 97 args) w := run_callFunc_enter Try.func97 (by kernel_rfl) (by kernel_rfl)
theorem ent98 : ∀ args w, (callFunc 98 args).run Try.prog w = .ok (.enter 98 args) w := run_callFunc_enter Try.func98 (by kernel_rfl) (by kernel_rfl)
theorem ent99 : ∀ args w, (callFunc 99 args).run Try.prog w = .ok (.enter 99 args) w := run_callFunc_enter Try.func99 (by kernel_rfl) (by kernel_rfl)
theorem ent100 : ∀ args w, (callFunc 100 args).run Try.prog w = .ok (.enter 100 args) w := run_callFunc_enter Try.func100 (by kernel_rfl) (by kernel_rfl)
theorem ent101 : ∀ args w, (callFunc 101 args).run Try.prog w = .ok (.enter 101 args) w := run_callFunc_enter Try.func101 (by kernel_rfl) (by kernel_rfl)
theorem ent102 : ∀ args w, (callFunc 102 args).run Try.prog w = .ok (.enter 102 args) w := run_callFunc_enter Try.func102 (by kernel_rfl) (by kernel_rfl)
theorem ent103 : ∀ args w, (callFunc 103 args).run Try.prog w = .ok (.enter 103 args) w := run_callFunc_enter Try.func103 (by kernel_rfl) (by kernel_rfl)
theorem ent104 : ∀ args w, (callFunc 104 args).run Try.prog w = .ok (.enter 104 args) w := run_callFunc_enter Try.func104 (by kernel_rfl) (by kernel_rfl)
theorem ent105 : ∀ args w, (callFunc 105 args).run Try.prog w = .ok (.enter 105 args) w := run_callFunc_enter Try.func105 (by kernel_rfl) (by kernel_rfl)
theorem ent106 : ∀ args w, (callFunc 106 args).run Try.prog w = .ok (.enter 106 args) w := run_callFunc_enter Try.func106 (by kernel_rfl) (by kernel_rfl)
theorem ent107 : ∀ args w, (callFunc 107 args).run Try.prog w = .ok (.enter 107 args) w := run_callFunc_enter Try.func107 (by kernel_rfl) (by kernel_rfl)
theorem ent109 : ∀ args w, (callFunc 109 args).run Try.prog w = .ok (.enter 109 args) w := run_callFunc_enter Try.func109 (by kernel_rfl) (by kernel_rfl)
theorem ent110 : ∀ args w, (callFunc 110 args).run Try.prog w = .ok (.enter 110 args) w := run_callFunc_enter Try.func110 (by kernel_rfl) (by kernel_rfl)
end Go.Proofs.Ythgecfjpacebeaa
