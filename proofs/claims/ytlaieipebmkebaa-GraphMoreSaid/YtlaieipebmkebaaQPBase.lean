/-
  Parts of a walk: what functions of the program compute, each told by a theorem.
-/
import Derived.Test.YtlaieipebmkebaaQF
import Derived.Test.YtlaieipebmkebaaProg
set_option linter.unusedVariables false
set_option linter.unusedSimpArgs false
namespace Go.Q
open Go.Proofs
theorem ti1 : TI Try.prog 1 .nilFunc 1 8 := TI.mk (by kernel_rfl)
theorem ti2 : TI Try.prog 2 (.int .i64 0) 1 8 := TI.mk (by kernel_rfl)
theorem ti3 : TI Try.prog 3 (.int .i64 0) 1 8 := TI.mk (by kernel_rfl)
theorem ti4 : TI Try.prog 4 (.bool false) 1 1 := TI.mk (by kernel_rfl)
theorem ti5 : TI Try.prog 5 (.int .u8 0) 1 1 := TI.mk (by kernel_rfl)
theorem ti6 : TI Try.prog 6 (.int .u8 0) 1 1 := TI.mk (by kernel_rfl)
theorem ti7 : TI Try.prog 7 (.agg #[(.int .i64 0), (.int .i64 0), (.bool false), (.int .u8 0)]) 4 24 := TI.mk (by kernel_rfl)
theorem ti8 : TI Try.prog 8 (.agg #[(.int .i64 0), (.int .i64 0), (.bool false), (.int .u8 0)]) 4 24 := TI.mk (by kernel_rfl)
theorem ti9 : TI Try.prog 9 (.string ⟨#[]⟩) 1 16 := TI.mk (by kernel_rfl)
theorem ti10 : TI Try.prog 10 (.string ⟨#[]⟩) 1 16 := TI.mk (by kernel_rfl)
theorem ti11 : TI Try.prog 11 (.string ⟨#[]⟩) 1 16 := TI.mk (by kernel_rfl)
theorem ti12 : TI Try.prog 12 (.int .u64 0) 1 8 := TI.mk (by kernel_rfl)
theorem ti13 : TI Try.prog 13 (.agg #[(.string ⟨#[]⟩), (.int .u64 0)]) 2 24 := TI.mk (by kernel_rfl)
theorem ti14 : TI Try.prog 14 (.agg #[(.string ⟨#[]⟩), (.int .u64 0)]) 2 24 := TI.mk (by kernel_rfl)
theorem ti15 : TI Try.prog 15 (.pointer none) 1 8 := TI.mk (by kernel_rfl)
theorem ti16 : TI Try.prog 16 (.pointer none) 1 8 := TI.mk (by kernel_rfl)
theorem ti17 : TI Try.prog 17 (.pointer none) 1 8 := TI.mk (by kernel_rfl)
theorem ti18 : TI Try.prog 18 (.agg #[(.pointer none)]) 1 8 := TI.mk (by kernel_rfl)
theorem ti19 : TI Try.prog 19 (.agg #[(.pointer none)]) 1 8 := TI.mk (by kernel_rfl)
theorem ti20 : TI Try.prog 20 .nilIface 1 16 := TI.mk (by kernel_rfl)
theorem ti21 : TI Try.prog 21 (.int .i32 0) 1 4 := TI.mk (by kernel_rfl)
theorem ti22 : TI Try.prog 22 (.slice none 0 0) 1 24 := TI.mk (by kernel_rfl)
theorem ti23 : TI Try.prog 23 (.slice none 0 0) 1 24 := TI.mk (by kernel_rfl)
theorem ti24 : TI Try.prog 24 (.slice none 0 0) 1 24 := TI.mk (by kernel_rfl)
theorem ti27 : TI Try.prog 27 .nilFunc 1 8 := TI.mk (by kernel_rfl)
theorem ti33 : TI Try.prog 33 (.agg #[(.int .i64 0), (.int .i64 0)]) 2 16 := TI.mk (by kernel_rfl)
theorem ti34 : TI Try.prog 34 (.agg #[(.int .i64 0), (.int .i64 0)]) 2 16 := TI.mk (by kernel_rfl)
theorem ti42 : TI Try.prog 42 (.agg #[(.int .i64 0), (.int .i64 0)]) 2 16 := TI.mk (by kernel_rfl)
theorem ti44 : TI Try.prog 44 (.agg #[(.slice none 0 0)]) 1 24 := TI.mk (by kernel_rfl)
theorem ti45 : TI Try.prog 45 (.agg #[(.slice none 0 0)]) 1 24 := TI.mk (by kernel_rfl)
theorem ti47 : TI Try.prog 47 .nilFunc 1 8 := TI.mk (by kernel_rfl)
theorem ti48 : TI Try.prog 48 (.slice none 0 0) 1 24 := TI.mk (by kernel_rfl)
theorem ti54 : TI Try.prog 54 (.pointer none) 1 8 := TI.mk (by kernel_rfl)
theorem ti59 : TI Try.prog 59 (.int .u64 0) 1 8 := TI.mk (by kernel_rfl)
theorem ti63 : TI Try.prog 63 .nilFunc 1 8 := TI.mk (by kernel_rfl)
theorem ti64 : TI Try.prog 64 (.agg #[(.pointer none), (.pointer none), (.pointer none), (.string ⟨#[]⟩)]) 4 40 := TI.mk (by kernel_rfl)
theorem ti65 : TI Try.prog 65 (.agg #[(.pointer none), (.pointer none), (.pointer none), (.string ⟨#[]⟩)]) 4 40 := TI.mk (by kernel_rfl)
theorem ti66 : TI Try.prog 66 (.agg #[]) 0 0 := TI.mk (by kernel_rfl)
theorem ti67 : TI Try.prog 67 (.agg #[]) 0 0 := TI.mk (by kernel_rfl)
theorem ti68 : TI Try.prog 68 (.agg #[]) 0 0 := TI.mk (by kernel_rfl)
theorem ti69 : TI Try.prog 69 .nilFunc 1 8 := TI.mk (by kernel_rfl)
theorem ti70 : TI Try.prog 70 (.int .u32 0) 1 4 := TI.mk (by kernel_rfl)
theorem ti71 : TI Try.prog 71 (.int .u8 0) 1 1 := TI.mk (by kernel_rfl)
theorem ti72 : TI Try.prog 72 (.int .u8 0) 1 1 := TI.mk (by kernel_rfl)
theorem ti74 : TI Try.prog 74 (.pointer none) 1 8 := TI.mk (by kernel_rfl)
theorem ti75 : TI Try.prog 75 (.int .i32 0) 1 4 := TI.mk (by kernel_rfl)
theorem ti76 : TI Try.prog 76 (.int .i32 0) 1 4 := TI.mk (by kernel_rfl)
theorem ti77 : TI Try.prog 77 (.agg #[(.int .u64 0), (.int .u64 0), (.int .u32 0), (.int .u8 0), (.int .u8 0), (.int .u8 0), (.int .u8 0), .nilFunc, (.pointer none), (.int .i32 0), (.int .i32 0)]) 11 48 := TI.mk (by kernel_rfl)
theorem ti78 : TI Try.prog 78 (.agg #[(.int .u64 0), (.int .u64 0), (.int .u32 0), (.int .u8 0), (.int .u8 0), (.int .u8 0), (.int .u8 0), .nilFunc, (.pointer none), (.int .i32 0), (.int .i32 0)]) 11 48 := TI.mk (by kernel_rfl)
theorem ti79 : TI Try.prog 79 (.pointer none) 1 8 := TI.mk (by kernel_rfl)
theorem ca2 : Callable Try.prog 2 := ⟨_, Try.func2, by kernel_rfl, by kernel_rfl⟩
theorem ca3 : Callable Try.prog 3 := ⟨_, Try.func3, by kernel_rfl, by kernel_rfl⟩
theorem ca4 : Callable Try.prog 4 := ⟨_, Try.func4, by kernel_rfl, by kernel_rfl⟩
theorem ca5 : Callable Try.prog 5 := ⟨_, Try.func5, by kernel_rfl, by kernel_rfl⟩
theorem ca6 : Callable Try.prog 6 := ⟨_, Try.func6, by kernel_rfl, by kernel_rfl⟩
theorem ca7 : Callable Try.prog 7 := ⟨_, Try.func7, by kernel_rfl, by kernel_rfl⟩
theorem ca8 : Callable Try.prog 8 := ⟨_, Try.func8, by kernel_rfl, by kernel_rfl⟩
theorem ca9 : Callable Try.prog 9 := ⟨_, Try.func9, by kernel_rfl, by kernel_rfl⟩
theorem ca10 : Callable Try.prog 10 := ⟨_, Try.func10, by kernel_rfl, by kernel_rfl⟩
theorem ca11 : Callable Try.prog 11 := ⟨_, Try.func11, by kernel_rfl, by kernel_rfl⟩
theorem ca12 : Callable Try.prog 12 := ⟨_, Try.func12, by kernel_rfl, by kernel_rfl⟩
theorem ca13 : Callable Try.prog 13 := ⟨_, Try.func13, by kernel_rfl, by kernel_rfl⟩
theorem ca14 : Callable Try.prog 14 := ⟨_, Try.func14, by kernel_rfl, by kernel_rfl⟩
theorem ca15 : Callable Try.prog 15 := ⟨_, Try.func15, by kernel_rfl, by kernel_rfl⟩
theorem ca16 : Callable Try.prog 16 := ⟨_, Try.func16, by kernel_rfl, by kernel_rfl⟩
theorem ca17 : Callable Try.prog 17 := ⟨_, Try.func17, by kernel_rfl, by kernel_rfl⟩
theorem ca18 : Callable Try.prog 18 := ⟨_, Try.func18, by kernel_rfl, by kernel_rfl⟩
theorem ca19 : Callable Try.prog 19 := ⟨_, Try.func19, by kernel_rfl, by kernel_rfl⟩
theorem ca20 : Callable Try.prog 20 := ⟨_, Try.func20, by kernel_rfl, by kernel_rfl⟩
theorem ca21 : Callable Try.prog 21 := ⟨_, Try.func21, by kernel_rfl, by kernel_rfl⟩
theorem ca22 : Callable Try.prog 22 := ⟨_, Try.func22, by kernel_rfl, by kernel_rfl⟩
theorem ca23 : Callable Try.prog 23 := ⟨_, Try.func23, by kernel_rfl, by kernel_rfl⟩
theorem ca24 : Callable Try.prog 24 := ⟨_, Try.func24, by kernel_rfl, by kernel_rfl⟩
theorem ca25 : Callable Try.prog 25 := ⟨_, Try.func25, by kernel_rfl, by kernel_rfl⟩
theorem ca26 : Callable Try.prog 26 := ⟨_, Try.func26, by kernel_rfl, by kernel_rfl⟩
theorem ca27 : Callable Try.prog 27 := ⟨_, Try.func27, by kernel_rfl, by kernel_rfl⟩
theorem ca28 : Callable Try.prog 28 := ⟨_, Try.func28, by kernel_rfl, by kernel_rfl⟩
theorem ca29 : Callable Try.prog 29 := ⟨_, Try.func29, by kernel_rfl, by kernel_rfl⟩
theorem ca30 : Callable Try.prog 30 := ⟨_, Try.func30, by kernel_rfl, by kernel_rfl⟩
theorem ca31 : Callable Try.prog 31 := ⟨_, Try.func31, by kernel_rfl, by kernel_rfl⟩
theorem ca32 : Callable Try.prog 32 := ⟨_, Try.func32, by kernel_rfl, by kernel_rfl⟩
theorem ca33 : Callable Try.prog 33 := ⟨_, Try.func33, by kernel_rfl, by kernel_rfl⟩
theorem ca35 : Callable Try.prog 35 := ⟨_, Try.func35, by kernel_rfl, by kernel_rfl⟩
theorem ca36 : Callable Try.prog 36 := ⟨_, Try.func36, by kernel_rfl, by kernel_rfl⟩
theorem ca37 : Callable Try.prog 37 := ⟨_, Try.func37, by kernel_rfl, by kernel_rfl⟩
theorem ca38 : Callable Try.prog 38 := ⟨_, Try.func38, by kernel_rfl, by kernel_rfl⟩
theorem mixed : Try.prog.follows .mixedOrders = true := by kernel_rfl
end Go.Q
