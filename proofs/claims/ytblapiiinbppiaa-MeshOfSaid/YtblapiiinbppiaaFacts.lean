import Derived.Test.YtblapiiinbppiaaRrBase
import Derived.Test.YtblapiiinbppiaaProg
import Derived.KernelRfl
namespace Go.Proofs.Ytblapiiinbppiaa
open Go.Rr
set_option linter.unusedVariables false
set_option maxRecDepth 20000
theorem mixed : Try.prog.follows .mixedOrders = true := by kernel_rfl
theorem bld119_  : BuildIs Try.prog 119 [] (.agg #[.int .i64 0, .int .i64 0, .int .i64 0, .bool false]) := by
  intro w
  simp [Instr.build, Instr.fill, cells_agg, Try.runUnderlying119, Try.zeroValue119, Try.sizeOf3, Try.sizeOf4]
theorem bld145_  : BuildIs Try.prog 145 [] (.agg #[.int .i64 0, .int .i64 0, .int .i64 0, .bool false, .bool false]) := by
  intro w
  simp [Instr.build, Instr.fill, cells_agg, Try.runUnderlying145, Try.zeroValue145, Try.sizeOf4, Try.sizeOf119]
theorem bld145_0_1 (v0_0 v0_1 v0_2 v0_3 v1 : Value) (h1 : v1.oneCell' = true) : BuildIs Try.prog 145 [(0, .agg #[v0_0, v0_1, v0_2, v0_3]), (1, v1)] (.agg #[v0_0, v0_1, v0_2, v0_3, v1]) := by
  intro w
  simp [Instr.build, Instr.fill, cells_agg, Try.runUnderlying145, Try.zeroValue145, Try.sizeOf4, Try.sizeOf119, cells_one h1]
theorem bld157_1_2 (v0 v1 : Value) (h0 : v0.oneCell' = true) (h1 : v1.oneCell' = true) : BuildIs Try.prog 157 [(1, v0), (2, v1)] (.agg #[.slice none 0 0, v0, v1]) := by
  intro w
  simp [Instr.build, Instr.fill, cells_agg, Try.runUnderlying157, Try.zeroValue157, Try.sizeOf51, cells_one h0, cells_one h1]
theorem bld159_0_1_2 (v0 v1 v2 : Value) (h0 : v0.oneCell' = true) (h1 : v1.oneCell' = true) (h2 : v2.oneCell' = true) : BuildIs Try.prog 159 [(0, v0), (1, v1), (2, v2)] (.agg #[v0, v1, v2, .int .i64 0]) := by
  intro w
  simp [Instr.build, Instr.fill, cells_agg, Try.runUnderlying159, Try.zeroValue159, Try.sizeOf3, Try.sizeOf5, Try.sizeOf23, Try.sizeOf51, cells_one h0, cells_one h1, cells_one h2]
theorem bld29_  : BuildIs Try.prog 29 [] (.agg #[.int .i64 0, .int .i64 0, .int .i64 0, .int .i64 0, .int .i64 0, .int .i64 0, .int .i64 0, .int .i64 0, .int .i64 0, .int .i64 0, .int .i64 0, .int .i64 0, .int .i64 0, .int .i64 0, .int .i64 0, .int .i64 0, .int .i64 0, .int .i64 0, .int .i64 0, .int .i64 0, .int .i64 0, .int .i64 0, .int .i64 0, .int .i64 0]) := by
  intro w
  simp [Instr.build, Instr.fill, cells_agg, Try.runUnderlying29, Try.zeroValue29, Try.sizeOf3]
theorem bld60_  : BuildIs Try.prog 60 [] (.agg #[.slice none 0 0, .slice none 0 0, .int .u64 0]) := by
  intro w
  simp [Instr.build, Instr.fill, cells_agg, Try.runUnderlying60, Try.zeroValue60, Try.sizeOf51, Try.sizeOf58]
theorem bld67_2 (v0 : Value) (h0 : v0.oneCell' = true) : BuildIs Try.prog 67 [(2, v0)] (.agg #[.slice none 0 0, .slice none 0 0, v0]) := by
  intro w
  simp [Instr.build, Instr.fill, cells_agg, Try.runUnderlying67, Try.zeroValue67, Try.sizeOf51, Try.sizeOf65, cells_one h0]
theorem bld95_0_1_2 (v0 v1 v2 : Value) (h0 : v0.oneCell' = true) (h1 : v1.oneCell' = true) (h2 : v2.oneCell' = true) : BuildIs Try.prog 95 [(0, v0), (1, v1), (2, v2)] (.agg #[v0, v1, v2]) := by
  intro w
  simp [Instr.build, Instr.fill, cells_agg, Try.runUnderlying95, Try.zeroValue95, Try.sizeOf3, cells_one h0, cells_one h1, cells_one h2]
theorem bld97_0_1_2 (v0 v1 v2_0 v2_1 v2_2 : Value) (h0 : v0.oneCell' = true) (h1 : v1.oneCell' = true) : BuildIs Try.prog 97 [(0, v0), (1, v1), (2, .agg #[v2_0, v2_1, v2_2])] (.agg #[v0, v1, v2_0, v2_1, v2_2]) := by
  intro w
  simp [Instr.build, Instr.fill, cells_agg, Try.runUnderlying97, Try.zeroValue97, Try.sizeOf3, Try.sizeOf95, cells_one h0, cells_one h1]
theorem fld100_0 : FieldIs Try.prog 100 0 0 := FieldIs.mk Try.runUnderlying100 rfl Try.sizeOf3 rfl rfl
theorem fld100_1 : FieldIs Try.prog 100 1 1 := FieldIs.mk Try.runUnderlying100 rfl Try.sizeOf98 rfl rfl
theorem fld119_0 : FieldIs Try.prog 119 0 0 := FieldIs.mk Try.runUnderlying119 rfl Try.sizeOf3 rfl rfl
theorem fld119_1 : FieldIs Try.prog 119 1 1 := FieldIs.mk Try.runUnderlying119 rfl Try.sizeOf3 rfl rfl
theorem fld119_2 : FieldIs Try.prog 119 2 2 := FieldIs.mk Try.runUnderlying119 rfl Try.sizeOf3 rfl rfl
theorem fld119_3 : FieldIs Try.prog 119 3 3 := FieldIs.mk Try.runUnderlying119 rfl Try.sizeOf4 rfl rfl
theorem fld121_0 : FieldIs Try.prog 121 0 0 := FieldIs.mk Try.runUnderlying121 rfl Try.sizeOf3 rfl rfl
theorem fld121_1 : FieldIs Try.prog 121 1 1 := FieldIs.mk Try.runUnderlying121 rfl Try.sizeOf3 rfl rfl
theorem fld121_2 : FieldIs Try.prog 121 2 2 := FieldIs.mk Try.runUnderlying121 rfl Try.sizeOf119 rfl rfl
theorem fld128_0 : FieldIs Try.prog 128 0 0 := FieldIs.mk Try.runUnderlying128 rfl Try.sizeOf3 rfl rfl
theorem fld128_1 : FieldIs Try.prog 128 1 1 := FieldIs.mk Try.runUnderlying128 rfl Try.sizeOf3 rfl rfl
theorem fld128_2 : FieldIs Try.prog 128 2 2 := FieldIs.mk Try.runUnderlying128 rfl Try.sizeOf125 rfl rfl
theorem fld128_3 : FieldIs Try.prog 128 3 66 := FieldIs.mk Try.runUnderlying128 rfl Try.sizeOf126 rfl rfl
theorem fld145_0 : FieldIs Try.prog 145 0 0 := FieldIs.mk Try.runUnderlying145 rfl Try.sizeOf119 rfl rfl
theorem fld145_1 : FieldIs Try.prog 145 1 4 := FieldIs.mk Try.runUnderlying145 rfl Try.sizeOf4 rfl rfl
theorem fld148_0 : FieldIs Try.prog 148 0 0 := FieldIs.mk Try.runUnderlying148 rfl Try.sizeOf146 rfl rfl
theorem fld148_1 : FieldIs Try.prog 148 1 320 := FieldIs.mk Try.runUnderlying148 rfl Try.sizeOf143 rfl rfl
theorem fld148_2 : FieldIs Try.prog 148 2 321 := FieldIs.mk Try.runUnderlying148 rfl Try.sizeOf3 rfl rfl
theorem fld148_3 : FieldIs Try.prog 148 3 322 := FieldIs.mk Try.runUnderlying148 rfl Try.sizeOf3 rfl rfl
theorem fld157_0 : FieldIs Try.prog 157 0 0 := FieldIs.mk Try.runUnderlying157 rfl Try.sizeOf51 rfl rfl
theorem fld157_1 : FieldIs Try.prog 157 1 1 := FieldIs.mk Try.runUnderlying157 rfl Try.sizeOf51 rfl rfl
theorem fld157_2 : FieldIs Try.prog 157 2 2 := FieldIs.mk Try.runUnderlying157 rfl Try.sizeOf51 rfl rfl
theorem fld159_0 : FieldIs Try.prog 159 0 0 := FieldIs.mk Try.runUnderlying159 rfl Try.sizeOf51 rfl rfl
theorem fld159_1 : FieldIs Try.prog 159 1 1 := FieldIs.mk Try.runUnderlying159 rfl Try.sizeOf23 rfl rfl
theorem fld159_2 : FieldIs Try.prog 159 2 2 := FieldIs.mk Try.runUnderlying159 rfl Try.sizeOf5 rfl rfl
theorem fld159_3 : FieldIs Try.prog 159 3 3 := FieldIs.mk Try.runUnderlying159 rfl Try.sizeOf3 rfl rfl
theorem fld164_0 : FieldIs Try.prog 164 0 0 := FieldIs.mk Try.runUnderlying164 rfl Try.sizeOf51 rfl rfl
theorem fld164_1 : FieldIs Try.prog 164 1 1 := FieldIs.mk Try.runUnderlying164 rfl Try.sizeOf51 rfl rfl
theorem fld32_0 : FieldIs Try.prog 32 0 0 := FieldIs.mk Try.runUnderlying32 rfl Try.sizeOf3 rfl rfl
theorem fld32_1 : FieldIs Try.prog 32 1 1 := FieldIs.mk Try.runUnderlying32 rfl Try.sizeOf30 rfl rfl
theorem fld44_0 : FieldIs Try.prog 44 0 0 := FieldIs.mk Try.runUnderlying44 rfl Try.sizeOf3 rfl rfl
theorem fld44_1 : FieldIs Try.prog 44 1 1 := FieldIs.mk Try.runUnderlying44 rfl Try.sizeOf3 rfl rfl
theorem fld44_2 : FieldIs Try.prog 44 2 2 := FieldIs.mk Try.runUnderlying44 rfl Try.sizeOf3 rfl rfl
theorem fld60_0 : FieldIs Try.prog 60 0 0 := FieldIs.mk Try.runUnderlying60 rfl Try.sizeOf51 rfl rfl
theorem fld60_1 : FieldIs Try.prog 60 1 1 := FieldIs.mk Try.runUnderlying60 rfl Try.sizeOf51 rfl rfl
theorem fld60_2 : FieldIs Try.prog 60 2 2 := FieldIs.mk Try.runUnderlying60 rfl Try.sizeOf58 rfl rfl
theorem fld67_0 : FieldIs Try.prog 67 0 0 := FieldIs.mk Try.runUnderlying67 rfl Try.sizeOf51 rfl rfl
theorem fld67_1 : FieldIs Try.prog 67 1 1 := FieldIs.mk Try.runUnderlying67 rfl Try.sizeOf51 rfl rfl
theorem fld67_2 : FieldIs Try.prog 67 2 2 := FieldIs.mk Try.runUnderlying67 rfl Try.sizeOf65 rfl rfl
theorem fld95_0 : FieldIs Try.prog 95 0 0 := FieldIs.mk Try.runUnderlying95 rfl Try.sizeOf3 rfl rfl
theorem fld95_2 : FieldIs Try.prog 95 2 2 := FieldIs.mk Try.runUnderlying95 rfl Try.sizeOf3 rfl rfl
theorem fld97_0 : FieldIs Try.prog 97 0 0 := FieldIs.mk Try.runUnderlying97 rfl Try.sizeOf3 rfl rfl
theorem fld97_1 : FieldIs Try.prog 97 1 1 := FieldIs.mk Try.runUnderlying97 rfl Try.sizeOf3 rfl rfl
theorem fld97_2 : FieldIs Try.prog 97 2 2 := FieldIs.mk Try.runUnderlying97 rfl Try.sizeOf95 rfl rfl
end Go.Proofs.Ytblapiiinbppiaa
