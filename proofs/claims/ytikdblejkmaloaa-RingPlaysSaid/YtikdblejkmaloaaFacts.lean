import Derived.Test.YtikdblejkmaloaaRrCut
import Derived.Test.YtikdblejkmaloaaRrRange
import Derived.Test.YtikdblejkmaloaaProg
import Derived.KernelRfl
namespace Go.Proofs.Ytikdblejkmaloaa
open Go.Rr
set_option linter.unusedVariables false
set_option maxRecDepth 20000
theorem mixed : Try.prog.follows .mixedOrders = true := by kernel_rfl
theorem bld41_0_1 (v0 v1 : Value) (h0 : v0.oneCell' = true) (h1 : v1.oneCell' = true) : BuildIs Try.prog 41 [(0, v0), (1, v1)] (.agg #[v0, v1]) := by
  intro w
  simp [Instr.build, Instr.fill, cells_agg, Try.runUnderlying41, Try.zeroValue41, Try.sizeOf3, cells_one h0, cells_one h1]
theorem bld63_0 (v0 : Value) (h0 : v0.oneCell' = true) : BuildIs Try.prog 63 [(0, v0)] (.agg #[v0, .slice none 0 0]) := by
  intro w
  simp [Instr.build, Instr.fill, cells_agg, Try.runUnderlying63, Try.zeroValue63, Try.sizeOf3, Try.sizeOf52, cells_one h0]
theorem bld82_0_1_2 (v0 v1 v2 : Value) (h0 : v0.oneCell' = true) (h1 : v1.oneCell' = true) (h2 : v2.oneCell' = true) : BuildIs Try.prog 82 [(0, v0), (1, v1), (2, v2)] (.agg #[v0, v1, v2, .int .i64 0]) := by
  intro w
  simp [Instr.build, Instr.fill, cells_agg, Try.runUnderlying82, Try.zeroValue82, Try.sizeOf3, Try.sizeOf5, Try.sizeOf52, Try.sizeOf80, cells_one h0, cells_one h1, cells_one h2]
theorem bld84_0_1 (v0 v1 : Value) (h0 : v0.oneCell' = true) (h1 : v1.oneCell' = true) : BuildIs Try.prog 84 [(0, v0), (1, v1)] (.agg #[v0, v1]) := by
  intro w
  simp [Instr.build, Instr.fill, cells_agg, Try.runUnderlying84, Try.zeroValue84, Try.sizeOf48, Try.sizeOf52, cells_one h0, cells_one h1]
theorem bld87_0_1_2 (v0 v1 v2 : Value) (h0 : v0.oneCell' = true) (h1 : v1.oneCell' = true) (h2 : v2.oneCell' = true) : BuildIs Try.prog 87 [(0, v0), (1, v1), (2, v2)] (.agg #[v0, v1, v2, .int .i64 0]) := by
  intro w
  simp [Instr.build, Instr.fill, cells_agg, Try.runUnderlying87, Try.zeroValue87, Try.sizeOf3, Try.sizeOf5, Try.sizeOf80, Try.sizeOf85, cells_one h0, cells_one h1, cells_one h2]
theorem bld89_0_1_2 (v0 v1 v2 : Value) (h0 : v0.oneCell' = true) (h1 : v1.oneCell' = true) (h2 : v2.oneCell' = true) : BuildIs Try.prog 89 [(0, v0), (1, v1), (2, v2)] (.agg #[v0, v1, v2, .int .i64 0]) := by
  intro w
  simp [Instr.build, Instr.fill, cells_agg, Try.runUnderlying89, Try.zeroValue89, Try.sizeOf3, Try.sizeOf5, Try.sizeOf47, Try.sizeOf80, cells_one h0, cells_one h1, cells_one h2]
theorem bld92_0 (v0 : Value) (h0 : v0.oneCell' = true) : BuildIs Try.prog 92 [(0, v0)] (.agg #[v0, .int .i64 0, .int .i64 0]) := by
  intro w
  simp [Instr.build, Instr.fill, cells_agg, Try.runUnderlying92, Try.zeroValue92, Try.sizeOf3, Try.sizeOf52, cells_one h0]
theorem bld98_0 (v0 : Value) (h0 : v0.oneCell' = true) : BuildIs Try.prog 98 [(0, v0)] (.agg #[v0, .int .i64 0, .int .i64 0]) := by
  intro w
  simp [Instr.build, Instr.fill, cells_agg, Try.runUnderlying98, Try.zeroValue98, Try.sizeOf3, Try.sizeOf47, cells_one h0]
theorem fld32_0 : FieldIs Try.prog 32 0 0 := FieldIs.mk Try.runUnderlying32 rfl Try.sizeOf3 rfl rfl
theorem fld32_1 : FieldIs Try.prog 32 1 1 := FieldIs.mk Try.runUnderlying32 rfl Try.sizeOf3 rfl rfl
theorem fld32_2 : FieldIs Try.prog 32 2 2 := FieldIs.mk Try.runUnderlying32 rfl Try.sizeOf3 rfl rfl
theorem fld32_3 : FieldIs Try.prog 32 3 3 := FieldIs.mk Try.runUnderlying32 rfl Try.sizeOf30 rfl rfl
theorem fld63_0 : FieldIs Try.prog 63 0 0 := FieldIs.mk Try.runUnderlying63 rfl Try.sizeOf3 rfl rfl
theorem fld63_1 : FieldIs Try.prog 63 1 1 := FieldIs.mk Try.runUnderlying63 rfl Try.sizeOf52 rfl rfl
theorem fld82_0 : FieldIs Try.prog 82 0 0 := FieldIs.mk Try.runUnderlying82 rfl Try.sizeOf52 rfl rfl
theorem fld82_1 : FieldIs Try.prog 82 1 1 := FieldIs.mk Try.runUnderlying82 rfl Try.sizeOf80 rfl rfl
theorem fld82_2 : FieldIs Try.prog 82 2 2 := FieldIs.mk Try.runUnderlying82 rfl Try.sizeOf5 rfl rfl
theorem fld82_3 : FieldIs Try.prog 82 3 3 := FieldIs.mk Try.runUnderlying82 rfl Try.sizeOf3 rfl rfl
theorem fld84_0 : FieldIs Try.prog 84 0 0 := FieldIs.mk Try.runUnderlying84 rfl Try.sizeOf52 rfl rfl
theorem fld84_1 : FieldIs Try.prog 84 1 1 := FieldIs.mk Try.runUnderlying84 rfl Try.sizeOf48 rfl rfl
theorem fld87_0 : FieldIs Try.prog 87 0 0 := FieldIs.mk Try.runUnderlying87 rfl Try.sizeOf85 rfl rfl
theorem fld87_1 : FieldIs Try.prog 87 1 1 := FieldIs.mk Try.runUnderlying87 rfl Try.sizeOf80 rfl rfl
theorem fld87_2 : FieldIs Try.prog 87 2 2 := FieldIs.mk Try.runUnderlying87 rfl Try.sizeOf5 rfl rfl
theorem fld87_3 : FieldIs Try.prog 87 3 3 := FieldIs.mk Try.runUnderlying87 rfl Try.sizeOf3 rfl rfl
theorem fld89_0 : FieldIs Try.prog 89 0 0 := FieldIs.mk Try.runUnderlying89 rfl Try.sizeOf47 rfl rfl
theorem fld89_1 : FieldIs Try.prog 89 1 1 := FieldIs.mk Try.runUnderlying89 rfl Try.sizeOf80 rfl rfl
theorem fld89_2 : FieldIs Try.prog 89 2 2 := FieldIs.mk Try.runUnderlying89 rfl Try.sizeOf5 rfl rfl
theorem fld89_3 : FieldIs Try.prog 89 3 3 := FieldIs.mk Try.runUnderlying89 rfl Try.sizeOf3 rfl rfl
theorem fld92_0 : FieldIs Try.prog 92 0 0 := FieldIs.mk Try.runUnderlying92 rfl Try.sizeOf52 rfl rfl
theorem fld92_1 : FieldIs Try.prog 92 1 1 := FieldIs.mk Try.runUnderlying92 rfl Try.sizeOf3 rfl rfl
theorem fld92_2 : FieldIs Try.prog 92 2 2 := FieldIs.mk Try.runUnderlying92 rfl Try.sizeOf3 rfl rfl
theorem fld98_0 : FieldIs Try.prog 98 0 0 := FieldIs.mk Try.runUnderlying98 rfl Try.sizeOf47 rfl rfl
theorem fld98_1 : FieldIs Try.prog 98 1 1 := FieldIs.mk Try.runUnderlying98 rfl Try.sizeOf3 rfl rfl
theorem fld98_2 : FieldIs Try.prog 98 2 2 := FieldIs.mk Try.runUnderlying98 rfl Try.sizeOf3 rfl rfl
end Go.Proofs.Ytikdblejkmaloaa
