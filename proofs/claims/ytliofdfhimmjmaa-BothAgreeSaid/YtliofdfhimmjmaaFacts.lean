import Derived.Test.YtliofdfhimmjmaaRrBase
import Derived.Test.YtliofdfhimmjmaaProg
import Derived.KernelRfl
namespace Go.Proofs.Ytliofdfhimmjmaa
open Go.Rr
set_option linter.unusedVariables false
set_option maxRecDepth 20000
theorem mixed : Try.prog.follows .mixedOrders = true:=by kernel_rfl
theorem bld118_3 (v0 : Value) (h0 : v0.oneCell' = true) : BuildIs Try.prog 118 [(3,v0)] (.agg #[.pointer none,.pointer none,.pointer none,v0]):=by
  intro w
  simp [Instr.build,Instr.fill,cells_agg,Try.runUnderlying118,Try.zeroValue118,Try.sizeOf4,Try.sizeOf99,Try.sizeOf116,cells_one h0]
theorem bld126_1_2 (v0 v1 : Value) (h0 : v0.oneCell' = true) (h1 : v1.oneCell' = true) : BuildIs Try.prog 126 [(1,v0),(2,v1)] (.agg #[.slice none 0 0,v0,v1]):=by
  intro w
  simp [Instr.build,Instr.fill,cells_agg,Try.runUnderlying126,Try.zeroValue126,Try.sizeOf28,cells_one h0,cells_one h1]
theorem bld136_0_1_2 (v0 v1 v2 : Value) (h0 : v0.oneCell' = true) (h1 : v1.oneCell' = true) (h2 : v2.oneCell' = true) : BuildIs Try.prog 136 [(0,v0),(1,v1),(2,v2)] (.agg #[v0,v1,v2,.int .i64 0]):=by
  intro w
  simp [Instr.build,Instr.fill,cells_agg,Try.runUnderlying136,Try.zeroValue136,Try.sizeOf3,Try.sizeOf5,Try.sizeOf28,Try.sizeOf134,cells_one h0,cells_one h1,cells_one h2]
theorem bld42_  : BuildIs Try.prog 42 [] (.agg #[.int .i64 0,.int .i64 0,.int .i64 0,.bool false]):=by
  intro w
  simp [Instr.build,Instr.fill,cells_agg,Try.runUnderlying42,Try.zeroValue42,Try.sizeOf3,Try.sizeOf4]
theorem bld42_0_1_2 (v0 v1 v2 : Value) (h0 : v0.oneCell' = true) (h1 : v1.oneCell' = true) (h2 : v2.oneCell' = true) : BuildIs Try.prog 42 [(0,v0),(1,v1),(2,v2)] (.agg #[v0,v1,v2,.bool false]):=by
  intro w
  simp [Instr.build,Instr.fill,cells_agg,Try.runUnderlying42,Try.zeroValue42,Try.sizeOf3,Try.sizeOf4,cells_one h0,cells_one h1,cells_one h2]
theorem bld82_0_1 (v0 v1 : Value) (h0 : v0.oneCell' = true) (h1 : v1.oneCell' = true) : BuildIs Try.prog 82 [(0,v0),(1,v1)] (.agg #[v0,v1]):=by
  intro w
  simp [Instr.build,Instr.fill,cells_agg,Try.runUnderlying82,Try.zeroValue82,Try.sizeOf81,cells_one h0,cells_one h1]
theorem bld84_0_1 (v0 v1 : Value) (h0 : v0.oneCell' = true) (h1 : v1.oneCell' = true) : BuildIs Try.prog 84 [(0,v0),(1,v1)] (.agg #[v0,v1]):=by
  intro w
  simp [Instr.build,Instr.fill,cells_agg,Try.runUnderlying84,Try.zeroValue84,Try.sizeOf3,cells_one h0,cells_one h1]
theorem bld90_  : BuildIs Try.prog 90 [] (.agg #[.int .i64 0,.int .i64 0,.int .i64 0,.bool false,.bool false]):=by
  intro w
  simp [Instr.build,Instr.fill,cells_agg,Try.runUnderlying90,Try.zeroValue90,Try.sizeOf4,Try.sizeOf42]
theorem bld90_0_1 (v0_0 v0_1 v0_2 v0_3 v1 : Value) (h1 : v1.oneCell' = true) : BuildIs Try.prog 90 [(0,.agg #[v0_0,v0_1,v0_2,v0_3]),(1,v1)] (.agg #[v0_0,v0_1,v0_2,v0_3,v1]):=by
  intro w
  simp [Instr.build,Instr.fill,cells_agg,Try.runUnderlying90,Try.zeroValue90,Try.sizeOf4,Try.sizeOf42,cells_one h1]
theorem fld118_0 : FieldIs Try.prog 118 0 0:=FieldIs.mk Try.runUnderlying118 rfl Try.sizeOf99 rfl rfl
theorem fld118_1 : FieldIs Try.prog 118 1 1:=FieldIs.mk Try.runUnderlying118 rfl Try.sizeOf116 rfl rfl
theorem fld118_2 : FieldIs Try.prog 118 2 2:=FieldIs.mk Try.runUnderlying118 rfl Try.sizeOf116 rfl rfl
theorem fld118_3 : FieldIs Try.prog 118 3 3:=FieldIs.mk Try.runUnderlying118 rfl Try.sizeOf4 rfl rfl
theorem fld126_0 : FieldIs Try.prog 126 0 0:=FieldIs.mk Try.runUnderlying126 rfl Try.sizeOf28 rfl rfl
theorem fld126_1 : FieldIs Try.prog 126 1 1:=FieldIs.mk Try.runUnderlying126 rfl Try.sizeOf28 rfl rfl
theorem fld126_2 : FieldIs Try.prog 126 2 2:=FieldIs.mk Try.runUnderlying126 rfl Try.sizeOf28 rfl rfl
theorem fld136_0 : FieldIs Try.prog 136 0 0:=FieldIs.mk Try.runUnderlying136 rfl Try.sizeOf28 rfl rfl
theorem fld136_1 : FieldIs Try.prog 136 1 1:=FieldIs.mk Try.runUnderlying136 rfl Try.sizeOf134 rfl rfl
theorem fld136_2 : FieldIs Try.prog 136 2 2:=FieldIs.mk Try.runUnderlying136 rfl Try.sizeOf5 rfl rfl
theorem fld136_3 : FieldIs Try.prog 136 3 3:=FieldIs.mk Try.runUnderlying136 rfl Try.sizeOf3 rfl rfl
theorem fld42_0 : FieldIs Try.prog 42 0 0:=FieldIs.mk Try.runUnderlying42 rfl Try.sizeOf3 rfl rfl
theorem fld42_1 : FieldIs Try.prog 42 1 1:=FieldIs.mk Try.runUnderlying42 rfl Try.sizeOf3 rfl rfl
theorem fld42_2 : FieldIs Try.prog 42 2 2:=FieldIs.mk Try.runUnderlying42 rfl Try.sizeOf3 rfl rfl
theorem fld42_3 : FieldIs Try.prog 42 3 3:=FieldIs.mk Try.runUnderlying42 rfl Try.sizeOf4 rfl rfl
theorem fld45_0 : FieldIs Try.prog 45 0 0:=FieldIs.mk Try.runUnderlying45 rfl Try.sizeOf3 rfl rfl
theorem fld45_1 : FieldIs Try.prog 45 1 1:=FieldIs.mk Try.runUnderlying45 rfl Try.sizeOf3 rfl rfl
theorem fld45_2 : FieldIs Try.prog 45 2 2:=FieldIs.mk Try.runUnderlying45 rfl Try.sizeOf40 rfl rfl
theorem fld45_3 : FieldIs Try.prog 45 3 66:=FieldIs.mk Try.runUnderlying45 rfl Try.sizeOf43 rfl rfl
theorem fld68_0 : FieldIs Try.prog 68 0 0:=FieldIs.mk Try.runUnderlying68 rfl Try.sizeOf3 rfl rfl
theorem fld68_1 : FieldIs Try.prog 68 1 1:=FieldIs.mk Try.runUnderlying68 rfl Try.sizeOf3 rfl rfl
theorem fld68_2 : FieldIs Try.prog 68 2 2:=FieldIs.mk Try.runUnderlying68 rfl Try.sizeOf42 rfl rfl
theorem fld84_0 : FieldIs Try.prog 84 0 0:=FieldIs.mk Try.runUnderlying84 rfl Try.sizeOf3 rfl rfl
theorem fld84_1 : FieldIs Try.prog 84 1 1:=FieldIs.mk Try.runUnderlying84 rfl Try.sizeOf3 rfl rfl
theorem fld90_0 : FieldIs Try.prog 90 0 0:=FieldIs.mk Try.runUnderlying90 rfl Try.sizeOf42 rfl rfl
theorem fld90_1 : FieldIs Try.prog 90 1 4:=FieldIs.mk Try.runUnderlying90 rfl Try.sizeOf4 rfl rfl
theorem fld93_0 : FieldIs Try.prog 93 0 0:=FieldIs.mk Try.runUnderlying93 rfl Try.sizeOf91 rfl rfl
theorem fld93_1 : FieldIs Try.prog 93 1 320:=FieldIs.mk Try.runUnderlying93 rfl Try.sizeOf88 rfl rfl
theorem fld93_2 : FieldIs Try.prog 93 2 321:=FieldIs.mk Try.runUnderlying93 rfl Try.sizeOf3 rfl rfl
theorem fld93_3 : FieldIs Try.prog 93 3 322:=FieldIs.mk Try.runUnderlying93 rfl Try.sizeOf3 rfl rfl
theorem fld96_0 : FieldIs Try.prog 96 0 0:=FieldIs.mk Try.runUnderlying96 rfl Try.sizeOf28 rfl rfl
theorem fld96_1 : FieldIs Try.prog 96 1 1:=FieldIs.mk Try.runUnderlying96 rfl Try.sizeOf28 rfl rfl
end Go.Proofs.Ytliofdfhimmjmaa
