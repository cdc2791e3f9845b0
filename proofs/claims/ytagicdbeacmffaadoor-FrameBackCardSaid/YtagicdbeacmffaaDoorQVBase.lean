/-
  Parts of a walk: what functions of the program compute, each told by a theorem.
-/
import Derived.Test.YtagicdbeacmffaaDoorQF
import Derived.Test.YtagicdbeacmffaaDoorProg
set_option linter.unusedVariables false
set_option linter.unusedSimpArgs false
namespace Go.Q
open Go.Proofs
theorem ti1 : TI Tryd.prog 1 .nilFunc 1 8 := TI.mk (by kernel_rfl)
theorem ti2 : TI Tryd.prog 2 (.int .i64 0) 1 8 := TI.mk (by kernel_rfl)
theorem ti3 : TI Tryd.prog 3 (.int .i64 0) 1 8 := TI.mk (by kernel_rfl)
theorem ti4 : TI Tryd.prog 4 (.bool false) 1 1 := TI.mk (by kernel_rfl)
theorem ti5 : TI Tryd.prog 5 (.int .u8 0) 1 1 := TI.mk (by kernel_rfl)
theorem ti6 : TI Tryd.prog 6 (.int .u8 0) 1 1 := TI.mk (by kernel_rfl)
theorem ti7 : TI Tryd.prog 7 (.agg #[(.int .i64 0), (.int .i64 0), (.bool false), (.int .u8 0)]) 4 24 := TI.mk (by kernel_rfl)
theorem ti8 : TI Tryd.prog 8 (.agg #[(.int .i64 0), (.int .i64 0), (.bool false), (.int .u8 0)]) 4 24 := TI.mk (by kernel_rfl)
theorem ti9 : TI Tryd.prog 9 (.string ⟨#[]⟩) 1 16 := TI.mk (by kernel_rfl)
theorem ti10 : TI Tryd.prog 10 (.string ⟨#[]⟩) 1 16 := TI.mk (by kernel_rfl)
theorem ti11 : TI Tryd.prog 11 (.string ⟨#[]⟩) 1 16 := TI.mk (by kernel_rfl)
theorem ti12 : TI Tryd.prog 12 (.int .u64 0) 1 8 := TI.mk (by kernel_rfl)
theorem ti13 : TI Tryd.prog 13 (.agg #[(.string ⟨#[]⟩), (.int .u64 0)]) 2 24 := TI.mk (by kernel_rfl)
theorem ti14 : TI Tryd.prog 14 (.agg #[(.string ⟨#[]⟩), (.int .u64 0)]) 2 24 := TI.mk (by kernel_rfl)
theorem ti15 : TI Tryd.prog 15 (.pointer none) 1 8 := TI.mk (by kernel_rfl)
theorem ti16 : TI Tryd.prog 16 (.pointer none) 1 8 := TI.mk (by kernel_rfl)
theorem ti17 : TI Tryd.prog 17 (.pointer none) 1 8 := TI.mk (by kernel_rfl)
theorem ti18 : TI Tryd.prog 18 (.agg #[(.pointer none)]) 1 8 := TI.mk (by kernel_rfl)
theorem ti19 : TI Tryd.prog 19 (.agg #[(.pointer none)]) 1 8 := TI.mk (by kernel_rfl)
theorem ti20 : TI Tryd.prog 20 .nilIface 1 16 := TI.mk (by kernel_rfl)
theorem ti21 : TI Tryd.prog 21 (.int .i32 0) 1 4 := TI.mk (by kernel_rfl)
theorem ti22 : TI Tryd.prog 22 (.slice none 0 0) 1 24 := TI.mk (by kernel_rfl)
theorem ti25 : TI Tryd.prog 25 .nilFunc 1 8 := TI.mk (by kernel_rfl)
theorem ti26 : TI Tryd.prog 26 (.int .u32 0) 1 4 := TI.mk (by kernel_rfl)
theorem ti33 : TI Tryd.prog 33 (.int .u64 0) 1 8 := TI.mk (by kernel_rfl)
theorem ti37 : TI Tryd.prog 37 (.slice none 0 0) 1 24 := TI.mk (by kernel_rfl)
theorem ti39 : TI Tryd.prog 39 (.agg #[(.int .i64 0), (.int .i64 0), (.int .i64 0), (.string ⟨#[]⟩)]) 4 40 := TI.mk (by kernel_rfl)
theorem ti40 : TI Tryd.prog 40 (.agg #[(.int .i64 0), (.int .i64 0), (.int .i64 0), (.string ⟨#[]⟩)]) 4 40 := TI.mk (by kernel_rfl)
theorem ti43 : TI Tryd.prog 43 (.agg #[(.int .i64 0), (.int .i64 0), (.int .i64 0), (.string ⟨#[]⟩)]) 4 40 := TI.mk (by kernel_rfl)
theorem ti50 : TI Tryd.prog 50 (.agg #[(.int .i64 0), (.int .i64 0)]) 2 16 := TI.mk (by kernel_rfl)
theorem ti51 : TI Tryd.prog 51 (.agg #[(.int .i64 0), (.int .i64 0)]) 2 16 := TI.mk (by kernel_rfl)
theorem ti52 : TI Tryd.prog 52 (.slice none 0 0) 1 24 := TI.mk (by kernel_rfl)
theorem ti55 : TI Tryd.prog 55 (.slice none 0 0) 1 24 := TI.mk (by kernel_rfl)
theorem ti67 : TI Tryd.prog 67 (.agg #[(.int .u32 0), (.int .u32 0), (.int .u32 0), (.int .u32 0), (.int .u32 0), (.int .u32 0), (.int .u32 0), (.int .u32 0), (.int .u32 0), (.int .u32 0), (.int .u32 0), (.int .u32 0), (.int .u32 0), (.int .u32 0), (.int .u32 0), (.int .u32 0)]) 16 64 := TI.mk (by kernel_rfl)
theorem ti68 : TI Tryd.prog 68 (.slice none 0 0) 1 24 := TI.mk (by kernel_rfl)
theorem ti77 : TI Tryd.prog 77 (.pointer none) 1 8 := TI.mk (by kernel_rfl)
theorem ti78 : TI Tryd.prog 78 (.agg #[(.pointer none), (.slice none 0 0)]) 2 32 := TI.mk (by kernel_rfl)
theorem ti79 : TI Tryd.prog 79 (.agg #[(.pointer none), (.slice none 0 0)]) 2 32 := TI.mk (by kernel_rfl)
theorem ti81 : TI Tryd.prog 81 .nilIface 1 16 := TI.mk (by kernel_rfl)
theorem ti82 : TI Tryd.prog 82 .nilIface 1 16 := TI.mk (by kernel_rfl)
theorem ti85 : TI Tryd.prog 85 .nilFunc 1 8 := TI.mk (by kernel_rfl)
theorem ti88 : TI Tryd.prog 88 (.pointer none) 1 8 := TI.mk (by kernel_rfl)
theorem ti89 : TI Tryd.prog 89 (.pointer none) 1 8 := TI.mk (by kernel_rfl)
theorem ti92 : TI Tryd.prog 92 (.agg #[(.pointer none), (.pointer none), (.pointer none), (.string ⟨#[]⟩)]) 4 40 := TI.mk (by kernel_rfl)
theorem ti93 : TI Tryd.prog 93 (.agg #[(.pointer none), (.pointer none), (.pointer none), (.string ⟨#[]⟩)]) 4 40 := TI.mk (by kernel_rfl)
theorem ti94 : TI Tryd.prog 94 (.agg #[]) 0 0 := TI.mk (by kernel_rfl)
theorem ti95 : TI Tryd.prog 95 (.agg #[]) 0 0 := TI.mk (by kernel_rfl)
theorem ti96 : TI Tryd.prog 96 (.agg #[]) 0 0 := TI.mk (by kernel_rfl)
theorem ti97 : TI Tryd.prog 97 .nilFunc 1 8 := TI.mk (by kernel_rfl)
theorem ti98 : TI Tryd.prog 98 (.int .u8 0) 1 1 := TI.mk (by kernel_rfl)
theorem ti99 : TI Tryd.prog 99 (.int .u8 0) 1 1 := TI.mk (by kernel_rfl)
theorem ti101 : TI Tryd.prog 101 (.int .i32 0) 1 4 := TI.mk (by kernel_rfl)
theorem ti102 : TI Tryd.prog 102 (.int .i32 0) 1 4 := TI.mk (by kernel_rfl)
theorem ti103 : TI Tryd.prog 103 (.agg #[(.int .u64 0), (.int .u64 0), (.int .u32 0), (.int .u8 0), (.int .u8 0), (.int .u8 0), (.int .u8 0), .nilFunc, (.pointer none), (.int .i32 0), (.int .i32 0)]) 11 48 := TI.mk (by kernel_rfl)
theorem ti104 : TI Tryd.prog 104 (.agg #[(.int .u64 0), (.int .u64 0), (.int .u32 0), (.int .u8 0), (.int .u8 0), (.int .u8 0), (.int .u8 0), .nilFunc, (.pointer none), (.int .i32 0), (.int .i32 0)]) 11 48 := TI.mk (by kernel_rfl)
theorem ca2 : Callable Tryd.prog 2 := ⟨_, Tryd.func2, by kernel_rfl, by kernel_rfl⟩
theorem ca3 : Callable Tryd.prog 3 := ⟨_, Tryd.func3, by kernel_rfl, by kernel_rfl⟩
theorem ca4 : Callable Tryd.prog 4 := ⟨_, Tryd.func4, by kernel_rfl, by kernel_rfl⟩
theorem ca5 : Callable Tryd.prog 5 := ⟨_, Tryd.func5, by kernel_rfl, by kernel_rfl⟩
theorem ca6 : Callable Tryd.prog 6 := ⟨_, Tryd.func6, by kernel_rfl, by kernel_rfl⟩
theorem ca7 : Callable Tryd.prog 7 := ⟨_, Tryd.func7, by kernel_rfl, by kernel_rfl⟩
theorem ca8 : Callable Tryd.prog 8 := ⟨_, Tryd.func8, by kernel_rfl, by kernel_rfl⟩
theorem ca9 : Callable Tryd.prog 9 := ⟨_, Tryd.func9, by kernel_rfl, by kernel_rfl⟩
theorem ca10 : Callable Tryd.prog 10 := ⟨_, Tryd.func10, by kernel_rfl, by kernel_rfl⟩
theorem ca11 : Callable Tryd.prog 11 := ⟨_, Tryd.func11, by kernel_rfl, by kernel_rfl⟩
theorem ca12 : Callable Tryd.prog 12 := ⟨_, Tryd.func12, by kernel_rfl, by kernel_rfl⟩
theorem ca13 : Callable Tryd.prog 13 := ⟨_, Tryd.func13, by kernel_rfl, by kernel_rfl⟩
theorem ca14 : Callable Tryd.prog 14 := ⟨_, Tryd.func14, by kernel_rfl, by kernel_rfl⟩
theorem ca15 : Callable Tryd.prog 15 := ⟨_, Tryd.func15, by kernel_rfl, by kernel_rfl⟩
theorem ca16 : Callable Tryd.prog 16 := ⟨_, Tryd.func16, by kernel_rfl, by kernel_rfl⟩
theorem ca17 : Callable Tryd.prog 17 := ⟨_, Tryd.func17, by kernel_rfl, by kernel_rfl⟩
theorem ca18 : Callable Tryd.prog 18 := ⟨_, Tryd.func18, by kernel_rfl, by kernel_rfl⟩
theorem ca19 : Callable Tryd.prog 19 := ⟨_, Tryd.func19, by kernel_rfl, by kernel_rfl⟩
theorem ca20 : Callable Tryd.prog 20 := ⟨_, Tryd.func20, by kernel_rfl, by kernel_rfl⟩
theorem ca21 : Callable Tryd.prog 21 := ⟨_, Tryd.func21, by kernel_rfl, by kernel_rfl⟩
theorem ca22 : Callable Tryd.prog 22 := ⟨_, Tryd.func22, by kernel_rfl, by kernel_rfl⟩
theorem ca23 : Callable Tryd.prog 23 := ⟨_, Tryd.func23, by kernel_rfl, by kernel_rfl⟩
theorem ca24 : Callable Tryd.prog 24 := ⟨_, Tryd.func24, by kernel_rfl, by kernel_rfl⟩
theorem ca25 : Callable Tryd.prog 25 := ⟨_, Tryd.func25, by kernel_rfl, by kernel_rfl⟩
theorem ca26 : Callable Tryd.prog 26 := ⟨_, Tryd.func26, by kernel_rfl, by kernel_rfl⟩
theorem ca27 : Callable Tryd.prog 27 := ⟨_, Tryd.func27, by kernel_rfl, by kernel_rfl⟩
theorem ca28 : Callable Tryd.prog 28 := ⟨_, Tryd.func28, by kernel_rfl, by kernel_rfl⟩
theorem ca29 : Callable Tryd.prog 29 := ⟨_, Tryd.func29, by kernel_rfl, by kernel_rfl⟩
theorem ca30 : Callable Tryd.prog 30 := ⟨_, Tryd.func30, by kernel_rfl, by kernel_rfl⟩
theorem ca31 : Callable Tryd.prog 31 := ⟨_, Tryd.func31, by kernel_rfl, by kernel_rfl⟩
theorem ca32 : Callable Tryd.prog 32 := ⟨_, Tryd.func32, by kernel_rfl, by kernel_rfl⟩
theorem ca33 : Callable Tryd.prog 33 := ⟨_, Tryd.func33, by kernel_rfl, by kernel_rfl⟩
theorem ca34 : Callable Tryd.prog 34 := ⟨_, Tryd.func34, by kernel_rfl, by kernel_rfl⟩
theorem ca35 : Callable Tryd.prog 35 := ⟨_, Tryd.func35, by kernel_rfl, by kernel_rfl⟩
theorem ca36 : Callable Tryd.prog 36 := ⟨_, Tryd.func36, by kernel_rfl, by kernel_rfl⟩
theorem ca37 : Callable Tryd.prog 37 := ⟨_, Tryd.func37, by kernel_rfl, by kernel_rfl⟩
theorem ca38 : Callable Tryd.prog 38 := ⟨_, Tryd.func38, by kernel_rfl, by kernel_rfl⟩
theorem ca39 : Callable Tryd.prog 39 := ⟨_, Tryd.func39, by kernel_rfl, by kernel_rfl⟩
theorem ca40 : Callable Tryd.prog 40 := ⟨_, Tryd.func40, by kernel_rfl, by kernel_rfl⟩
theorem ca41 : Callable Tryd.prog 41 := ⟨_, Tryd.func41, by kernel_rfl, by kernel_rfl⟩
theorem ca42 : Callable Tryd.prog 42 := ⟨_, Tryd.func42, by kernel_rfl, by kernel_rfl⟩
theorem ca43 : Callable Tryd.prog 43 := ⟨_, Tryd.func43, by kernel_rfl, by kernel_rfl⟩
theorem ca44 : Callable Tryd.prog 44 := ⟨_, Tryd.func44, by kernel_rfl, by kernel_rfl⟩
theorem ca45 : Callable Tryd.prog 45 := ⟨_, Tryd.func45, by kernel_rfl, by kernel_rfl⟩
theorem ca46 : Callable Tryd.prog 46 := ⟨_, Tryd.func46, by kernel_rfl, by kernel_rfl⟩
theorem ca47 : Callable Tryd.prog 47 := ⟨_, Tryd.func47, by kernel_rfl, by kernel_rfl⟩
theorem ca48 : Callable Tryd.prog 48 := ⟨_, Tryd.func48, by kernel_rfl, by kernel_rfl⟩
theorem ca49 : Callable Tryd.prog 49 := ⟨_, Tryd.func49, by kernel_rfl, by kernel_rfl⟩
theorem ca50 : Callable Tryd.prog 50 := ⟨_, Tryd.func50, by kernel_rfl, by kernel_rfl⟩
theorem mixed : Tryd.prog.follows .mixedOrders = true := by kernel_rfl
end Go.Q
