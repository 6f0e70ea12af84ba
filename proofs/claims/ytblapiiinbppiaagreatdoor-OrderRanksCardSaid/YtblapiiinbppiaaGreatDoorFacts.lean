import Derived.Test.YtblapiiinbppiaaGreatDoorRrBase
import Derived.Test.YtblapiiinbppiaaGreatDoorProg
import Derived.KernelRfl
namespace Go.Proofs.YtblapiiinbppiaaGreatDoor
open Go.Rr
set_option linter.unusedVariables false
set_option maxRecDepth 20000
theorem mixed : Tryz.prog.follows .mixedOrders = true:=by kernel_rfl
theorem bld119_  : BuildIs Tryz.prog 119 [] (.agg #[.slice none 0 0,.slice none 0 0,.int .u64 0]):=by
  intro w
  simp [Instr.build,Instr.fill,cells_agg,Tryz.runUnderlying119,Tryz.zeroValue119,Tryz.sizeOf28,Tryz.sizeOf61]
theorem bld141_2 (v0 : Value) (h0 : v0.oneCell' = true) : BuildIs Tryz.prog 141 [(2,v0)] (.agg #[.slice none 0 0,.slice none 0 0,v0]):=by
  intro w
  simp [Instr.build,Instr.fill,cells_agg,Tryz.runUnderlying141,Tryz.zeroValue141,Tryz.sizeOf28,Tryz.sizeOf74,cells_one h0]
theorem bld156_1_2 (v0 v1 : Value) (h0 : v0.oneCell' = true) (h1 : v1.oneCell' = true) : BuildIs Tryz.prog 156 [(1,v0),(2,v1)] (.agg #[.slice none 0 0,v0,v1]):=by
  intro w
  simp [Instr.build,Instr.fill,cells_agg,Tryz.runUnderlying156,Tryz.zeroValue156,Tryz.sizeOf28,cells_one h0,cells_one h1]
theorem bld159_0_1_2 (v0 v1 v2 : Value) (h0 : v0.oneCell' = true) (h1 : v1.oneCell' = true) (h2 : v2.oneCell' = true) : BuildIs Tryz.prog 159 [(0,v0),(1,v1),(2,v2)] (.agg #[v0,v1,v2,.int .i64 0]):=by
  intro w
  simp [Instr.build,Instr.fill,cells_agg,Tryz.runUnderlying159,Tryz.zeroValue159,Tryz.sizeOf3,Tryz.sizeOf5,Tryz.sizeOf28,Tryz.sizeOf157,cells_one h0,cells_one h1,cells_one h2]
theorem bld35_  : BuildIs Tryz.prog 35 [] (.agg #[.int .i64 0,.int .i64 0,.int .i64 0,.bool false]):=by
  intro w
  simp [Instr.build,Instr.fill,cells_agg,Tryz.runUnderlying35,Tryz.zeroValue35,Tryz.sizeOf3,Tryz.sizeOf4]
theorem bld81_  : BuildIs Tryz.prog 81 [] (.agg #[.int .i64 0,.int .i64 0,.int .i64 0,.bool false,.bool false]):=by
  intro w
  simp [Instr.build,Instr.fill,cells_agg,Tryz.runUnderlying81,Tryz.zeroValue81,Tryz.sizeOf4,Tryz.sizeOf35]
theorem bld81_0_1 (v0_0 v0_1 v0_2 v0_3 v1 : Value) (h1 : v1.oneCell' = true) : BuildIs Tryz.prog 81 [(0,.agg #[v0_0,v0_1,v0_2,v0_3]),(1,v1)] (.agg #[v0_0,v0_1,v0_2,v0_3,v1]):=by
  intro w
  simp [Instr.build,Instr.fill,cells_agg,Tryz.runUnderlying81,Tryz.zeroValue81,Tryz.sizeOf4,Tryz.sizeOf35,cells_one h1]
theorem bld89_  : BuildIs Tryz.prog 89 [] (.agg #[.int .i64 0,.int .i64 0,.int .i64 0,.int .i64 0,.int .i64 0,.int .i64 0,.int .i64 0,.int .i64 0,.int .i64 0,.int .i64 0,.int .i64 0,.int .i64 0,.int .i64 0,.int .i64 0,.int .i64 0,.int .i64 0,.int .i64 0,.int .i64 0,.int .i64 0,.int .i64 0,.int .i64 0,.int .i64 0,.int .i64 0,.int .i64 0]):=by
  intro w
  simp [Instr.build,Instr.fill,cells_agg,Tryz.runUnderlying89,Tryz.zeroValue89,Tryz.sizeOf3]
theorem bld97_0_1_2 (v0 v1 v2 : Value) (h0 : v0.oneCell' = true) (h1 : v1.oneCell' = true) (h2 : v2.oneCell' = true) : BuildIs Tryz.prog 97 [(0,v0),(1,v1),(2,v2)] (.agg #[v0,v1,v2]):=by
  intro w
  simp [Instr.build,Instr.fill,cells_agg,Tryz.runUnderlying97,Tryz.zeroValue97,Tryz.sizeOf3,cells_one h0,cells_one h1,cells_one h2]
theorem bld99_0_1_2 (v0 v1 v2_0 v2_1 v2_2 : Value) (h0 : v0.oneCell' = true) (h1 : v1.oneCell' = true) : BuildIs Tryz.prog 99 [(0,v0),(1,v1),(2,.agg #[v2_0,v2_1,v2_2])] (.agg #[v0,v1,v2_0,v2_1,v2_2]):=by
  intro w
  simp [Instr.build,Instr.fill,cells_agg,Tryz.runUnderlying99,Tryz.zeroValue99,Tryz.sizeOf3,Tryz.sizeOf97,cells_one h0,cells_one h1]
theorem fld114_0 : FieldIs Tryz.prog 114 0 0:=FieldIs.mk Tryz.runUnderlying114 rfl Tryz.sizeOf3 rfl rfl
theorem fld114_1 : FieldIs Tryz.prog 114 1 1:=FieldIs.mk Tryz.runUnderlying114 rfl Tryz.sizeOf90 rfl rfl
theorem fld119_0 : FieldIs Tryz.prog 119 0 0:=FieldIs.mk Tryz.runUnderlying119 rfl Tryz.sizeOf28 rfl rfl
theorem fld119_1 : FieldIs Tryz.prog 119 1 1:=FieldIs.mk Tryz.runUnderlying119 rfl Tryz.sizeOf28 rfl rfl
theorem fld119_2 : FieldIs Tryz.prog 119 2 2:=FieldIs.mk Tryz.runUnderlying119 rfl Tryz.sizeOf61 rfl rfl
theorem fld141_0 : FieldIs Tryz.prog 141 0 0:=FieldIs.mk Tryz.runUnderlying141 rfl Tryz.sizeOf28 rfl rfl
theorem fld141_1 : FieldIs Tryz.prog 141 1 1:=FieldIs.mk Tryz.runUnderlying141 rfl Tryz.sizeOf28 rfl rfl
theorem fld141_2 : FieldIs Tryz.prog 141 2 2:=FieldIs.mk Tryz.runUnderlying141 rfl Tryz.sizeOf74 rfl rfl
theorem fld156_0 : FieldIs Tryz.prog 156 0 0:=FieldIs.mk Tryz.runUnderlying156 rfl Tryz.sizeOf28 rfl rfl
theorem fld156_1 : FieldIs Tryz.prog 156 1 1:=FieldIs.mk Tryz.runUnderlying156 rfl Tryz.sizeOf28 rfl rfl
theorem fld156_2 : FieldIs Tryz.prog 156 2 2:=FieldIs.mk Tryz.runUnderlying156 rfl Tryz.sizeOf28 rfl rfl
theorem fld159_0 : FieldIs Tryz.prog 159 0 0:=FieldIs.mk Tryz.runUnderlying159 rfl Tryz.sizeOf28 rfl rfl
theorem fld159_1 : FieldIs Tryz.prog 159 1 1:=FieldIs.mk Tryz.runUnderlying159 rfl Tryz.sizeOf157 rfl rfl
theorem fld159_2 : FieldIs Tryz.prog 159 2 2:=FieldIs.mk Tryz.runUnderlying159 rfl Tryz.sizeOf5 rfl rfl
theorem fld159_3 : FieldIs Tryz.prog 159 3 3:=FieldIs.mk Tryz.runUnderlying159 rfl Tryz.sizeOf3 rfl rfl
theorem fld35_0 : FieldIs Tryz.prog 35 0 0:=FieldIs.mk Tryz.runUnderlying35 rfl Tryz.sizeOf3 rfl rfl
theorem fld35_1 : FieldIs Tryz.prog 35 1 1:=FieldIs.mk Tryz.runUnderlying35 rfl Tryz.sizeOf3 rfl rfl
theorem fld35_2 : FieldIs Tryz.prog 35 2 2:=FieldIs.mk Tryz.runUnderlying35 rfl Tryz.sizeOf3 rfl rfl
theorem fld35_3 : FieldIs Tryz.prog 35 3 3:=FieldIs.mk Tryz.runUnderlying35 rfl Tryz.sizeOf4 rfl rfl
theorem fld41_0 : FieldIs Tryz.prog 41 0 0:=FieldIs.mk Tryz.runUnderlying41 rfl Tryz.sizeOf3 rfl rfl
theorem fld41_1 : FieldIs Tryz.prog 41 1 1:=FieldIs.mk Tryz.runUnderlying41 rfl Tryz.sizeOf3 rfl rfl
theorem fld41_2 : FieldIs Tryz.prog 41 2 2:=FieldIs.mk Tryz.runUnderlying41 rfl Tryz.sizeOf38 rfl rfl
theorem fld41_3 : FieldIs Tryz.prog 41 3 66:=FieldIs.mk Tryz.runUnderlying41 rfl Tryz.sizeOf39 rfl rfl
theorem fld56_0 : FieldIs Tryz.prog 56 0 0:=FieldIs.mk Tryz.runUnderlying56 rfl Tryz.sizeOf3 rfl rfl
theorem fld56_1 : FieldIs Tryz.prog 56 1 1:=FieldIs.mk Tryz.runUnderlying56 rfl Tryz.sizeOf3 rfl rfl
theorem fld56_2 : FieldIs Tryz.prog 56 2 2:=FieldIs.mk Tryz.runUnderlying56 rfl Tryz.sizeOf35 rfl rfl
theorem fld81_0 : FieldIs Tryz.prog 81 0 0:=FieldIs.mk Tryz.runUnderlying81 rfl Tryz.sizeOf35 rfl rfl
theorem fld81_1 : FieldIs Tryz.prog 81 1 4:=FieldIs.mk Tryz.runUnderlying81 rfl Tryz.sizeOf4 rfl rfl
theorem fld85_0 : FieldIs Tryz.prog 85 0 0:=FieldIs.mk Tryz.runUnderlying85 rfl Tryz.sizeOf82 rfl rfl
theorem fld85_1 : FieldIs Tryz.prog 85 1 320:=FieldIs.mk Tryz.runUnderlying85 rfl Tryz.sizeOf83 rfl rfl
theorem fld85_2 : FieldIs Tryz.prog 85 2 321:=FieldIs.mk Tryz.runUnderlying85 rfl Tryz.sizeOf3 rfl rfl
theorem fld85_3 : FieldIs Tryz.prog 85 3 322:=FieldIs.mk Tryz.runUnderlying85 rfl Tryz.sizeOf3 rfl rfl
theorem fld88_0 : FieldIs Tryz.prog 88 0 0:=FieldIs.mk Tryz.runUnderlying88 rfl Tryz.sizeOf28 rfl rfl
theorem fld88_1 : FieldIs Tryz.prog 88 1 1:=FieldIs.mk Tryz.runUnderlying88 rfl Tryz.sizeOf28 rfl rfl
theorem fld93_0 : FieldIs Tryz.prog 93 0 0:=FieldIs.mk Tryz.runUnderlying93 rfl Tryz.sizeOf3 rfl rfl
theorem fld93_1 : FieldIs Tryz.prog 93 1 1:=FieldIs.mk Tryz.runUnderlying93 rfl Tryz.sizeOf91 rfl rfl
theorem fld97_0 : FieldIs Tryz.prog 97 0 0:=FieldIs.mk Tryz.runUnderlying97 rfl Tryz.sizeOf3 rfl rfl
theorem fld99_0 : FieldIs Tryz.prog 99 0 0:=FieldIs.mk Tryz.runUnderlying99 rfl Tryz.sizeOf3 rfl rfl
theorem fld99_1 : FieldIs Tryz.prog 99 1 1:=FieldIs.mk Tryz.runUnderlying99 rfl Tryz.sizeOf3 rfl rfl
theorem fld99_2 : FieldIs Tryz.prog 99 2 2:=FieldIs.mk Tryz.runUnderlying99 rfl Tryz.sizeOf97 rfl rfl
end Go.Proofs.YtblapiiinbppiaaGreatDoor
