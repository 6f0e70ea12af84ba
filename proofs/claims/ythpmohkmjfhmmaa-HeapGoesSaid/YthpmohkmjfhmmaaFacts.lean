import Derived.Test.YthpmohkmjfhmmaaRrCap
import Derived.Test.YthpmohkmjfhmmaaRrRange
import Derived.Test.YthpmohkmjfhmmaaProg
import Derived.KernelRfl
namespace Go.Proofs.Ythpmohkmjfhmmaa
open Go.Rr
set_option linter.unusedVariables false
set_option maxRecDepth 20000
theorem mixed : Try.prog.follows .mixedOrders = true := by kernel_rfl
theorem bld52_0_1 (v0 v1 : Value) (h0 : v0.oneCell' = true) (h1 : v1.oneCell' = true) : BuildIs Try.prog 52 [(0, v0), (1, v1)] (.agg #[v0, v1]) := by
  intro w
  simp [Instr.build, Instr.fill, cells_agg, Try.runUnderlying52, Try.zeroValue52, Try.sizeOf22, Try.sizeOf50, cells_one h0, cells_one h1]
theorem bld79_0_1_2 (v0 v1 v2 : Value) (h0 : v0.oneCell' = true) (h1 : v1.oneCell' = true) (h2 : v2.oneCell' = true) : BuildIs Try.prog 79 [(0, v0), (1, v1), (2, v2)] (.agg #[v0, v1, v2]) := by
  intro w
  simp [Instr.build, Instr.fill, cells_agg, Try.runUnderlying79, Try.zeroValue79, Try.sizeOf22, cells_one h0, cells_one h1, cells_one h2]
theorem bld79_1_2 (v0 v1 : Value) (h0 : v0.oneCell' = true) (h1 : v1.oneCell' = true) : BuildIs Try.prog 79 [(1, v0), (2, v1)] (.agg #[.slice none 0 0, v0, v1]) := by
  intro w
  simp [Instr.build, Instr.fill, cells_agg, Try.runUnderlying79, Try.zeroValue79, Try.sizeOf22, cells_one h0, cells_one h1]
theorem bld83_1_2 (v0 v1 : Value) (h0 : v0.oneCell' = true) (h1 : v1.oneCell' = true) : BuildIs Try.prog 83 [(1, v0), (2, v1)] (.agg #[.slice none 0 0, v0, v1]) := by
  intro w
  simp [Instr.build, Instr.fill, cells_agg, Try.runUnderlying83, Try.zeroValue83, Try.sizeOf22, Try.sizeOf53, cells_one h0, cells_one h1]
theorem fld52_0 : FieldIs Try.prog 52 0 0 := FieldIs.mk Try.runUnderlying52 rfl Try.sizeOf50 rfl rfl
theorem fld52_1 : FieldIs Try.prog 52 1 1 := FieldIs.mk Try.runUnderlying52 rfl Try.sizeOf22 rfl rfl
theorem fld65_0 : FieldIs Try.prog 65 0 0 := FieldIs.mk Try.runUnderlying65 rfl Try.sizeOf3 rfl rfl
theorem fld65_1 : FieldIs Try.prog 65 1 1 := FieldIs.mk Try.runUnderlying65 rfl Try.sizeOf3 rfl rfl
theorem fld65_2 : FieldIs Try.prog 65 2 2 := FieldIs.mk Try.runUnderlying65 rfl Try.sizeOf3 rfl rfl
theorem fld79_0 : FieldIs Try.prog 79 0 0 := FieldIs.mk Try.runUnderlying79 rfl Try.sizeOf22 rfl rfl
theorem fld79_1 : FieldIs Try.prog 79 1 1 := FieldIs.mk Try.runUnderlying79 rfl Try.sizeOf22 rfl rfl
theorem fld79_2 : FieldIs Try.prog 79 2 2 := FieldIs.mk Try.runUnderlying79 rfl Try.sizeOf22 rfl rfl
theorem fld83_0 : FieldIs Try.prog 83 0 0 := FieldIs.mk Try.runUnderlying83 rfl Try.sizeOf22 rfl rfl
theorem fld83_1 : FieldIs Try.prog 83 1 1 := FieldIs.mk Try.runUnderlying83 rfl Try.sizeOf22 rfl rfl
theorem fld83_2 : FieldIs Try.prog 83 2 2 := FieldIs.mk Try.runUnderlying83 rfl Try.sizeOf53 rfl rfl
end Go.Proofs.Ythpmohkmjfhmmaa
