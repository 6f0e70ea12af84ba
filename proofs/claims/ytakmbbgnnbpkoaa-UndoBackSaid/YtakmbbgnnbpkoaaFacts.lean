import Derived.Test.YtakmbbgnnbpkoaaRrBase
import Derived.Test.YtakmbbgnnbpkoaaProg
import Derived.KernelRfl
namespace Go.Proofs.Ytakmbbgnnbpkoaa
open Go.Rr
set_option linter.unusedVariables false
set_option maxRecDepth 20000
theorem mixed : Try.prog.follows .mixedOrders = true := by kernel_rfl
theorem bld107_0_1 (v0 v1 : Value) (h0 : v0.oneCell' = true) (h1 : v1.oneCell' = true) : BuildIs Try.prog 107 [(0, v0), (1, v1)] (.agg #[v0, v1, .slice none 0 0, .slice none 0 0]) := by
  intro w
  simp [Instr.build, Instr.fill, cells_agg, Try.runUnderlying107, Try.zeroValue107, Try.sizeOf3, Try.sizeOf25, Try.sizeOf104, Try.sizeOf105, cells_one h0, cells_one h1]
theorem bld115_  : BuildIs Try.prog 115 [] (.agg #[.int .i64 0, .int .i64 0, .int .i64 0, .bool false, .bool false]) := by
  intro w
  simp [Instr.build, Instr.fill, cells_agg, Try.runUnderlying115, Try.zeroValue115, Try.sizeOf4, Try.sizeOf31]
theorem bld115_0_1 (v0_0 v0_1 v0_2 v0_3 v1 : Value) (h1 : v1.oneCell' = true) : BuildIs Try.prog 115 [(0, .agg #[v0_0, v0_1, v0_2, v0_3]), (1, v1)] (.agg #[v0_0, v0_1, v0_2, v0_3, v1]) := by
  intro w
  simp [Instr.build, Instr.fill, cells_agg, Try.runUnderlying115, Try.zeroValue115, Try.sizeOf4, Try.sizeOf31, cells_one h1]
theorem bld125_0_1 (v0 v1 : Value) (h0 : v0.oneCell' = true) (h1 : v1.oneCell' = true) : BuildIs Try.prog 125 [(0, v0), (1, v1)] (.agg #[v0, v1]) := by
  intro w
  simp [Instr.build, Instr.fill, cells_agg, Try.runUnderlying125, Try.zeroValue125, Try.sizeOf37, cells_one h0, cells_one h1]
theorem bld141_0_1 (v0 v1_0 v1_1 v1_2 v1_3 : Value) (h0 : v0.oneCell' = true) : BuildIs Try.prog 141 [(0, v0), (1, .agg #[v1_0, v1_1, v1_2, v1_3])] (.agg #[v0, v1_0, v1_1, v1_2, v1_3]) := by
  intro w
  simp [Instr.build, Instr.fill, cells_agg, Try.runUnderlying141, Try.zeroValue141, Try.sizeOf31, Try.sizeOf139, cells_one h0]
theorem bld143_0_1 (v0 v1 : Value) (h0 : v0.oneCell' = true) (h1 : v1.oneCell' = true) : BuildIs Try.prog 143 [(0, v0), (1, v1)] (.agg #[v0, v1]) := by
  intro w
  simp [Instr.build, Instr.fill, cells_agg, Try.runUnderlying143, Try.zeroValue143, Try.sizeOf24, Try.sizeOf136, cells_one h0, cells_one h1]
theorem bld151_  : BuildIs Try.prog 151 [] (.agg #[.nilFunc, .nilFunc]) := by
  intro w
  simp [Instr.build, Instr.fill, cells_agg, Try.runUnderlying151, Try.zeroValue151, Try.sizeOf148, Try.sizeOf149]
theorem bld151_0_1 (v0 v1 : Value) (h0 : v0.oneCell' = true) (h1 : v1.oneCell' = true) : BuildIs Try.prog 151 [(0, v0), (1, v1)] (.agg #[v0, v1]) := by
  intro w
  simp [Instr.build, Instr.fill, cells_agg, Try.runUnderlying151, Try.zeroValue151, Try.sizeOf148, Try.sizeOf149, cells_one h0, cells_one h1]
theorem bld170_0 (v0 : Value) (h0 : v0.oneCell' = true) : BuildIs Try.prog 170 [(0, v0)] (.agg #[v0, .int .i64 0, .int .i64 0]) := by
  intro w
  simp [Instr.build, Instr.fill, cells_agg, Try.runUnderlying170, Try.zeroValue170, Try.sizeOf3, Try.sizeOf168, cells_one h0]
theorem bld173_0_1 (v0 v1 : Value) (h0 : v0.oneCell' = true) (h1 : v1.oneCell' = true) : BuildIs Try.prog 173 [(0, v0), (1, v1)] (.agg #[v0, v1]) := by
  intro w
  simp [Instr.build, Instr.fill, cells_agg, Try.runUnderlying173, Try.zeroValue173, Try.sizeOf3, cells_one h0, cells_one h1]
theorem bld31_  : BuildIs Try.prog 31 [] (.agg #[.int .i64 0, .int .i64 0, .int .i64 0, .bool false]) := by
  intro w
  simp [Instr.build, Instr.fill, cells_agg, Try.runUnderlying31, Try.zeroValue31, Try.sizeOf3, Try.sizeOf4]
theorem bld31_0_1_2 (v0 v1 v2 : Value) (h0 : v0.oneCell' = true) (h1 : v1.oneCell' = true) (h2 : v2.oneCell' = true) : BuildIs Try.prog 31 [(0, v0), (1, v1), (2, v2)] (.agg #[v0, v1, v2, .bool false]) := by
  intro w
  simp [Instr.build, Instr.fill, cells_agg, Try.runUnderlying31, Try.zeroValue31, Try.sizeOf3, Try.sizeOf4, cells_one h0, cells_one h1, cells_one h2]
theorem bld31_2 (v0 : Value) (h0 : v0.oneCell' = true) : BuildIs Try.prog 31 [(2, v0)] (.agg #[.int .i64 0, .int .i64 0, v0, .bool false]) := by
  intro w
  simp [Instr.build, Instr.fill, cells_agg, Try.runUnderlying31, Try.zeroValue31, Try.sizeOf3, Try.sizeOf4, cells_one h0]
theorem bld47_0_1 (v0 v1 : Value) (h0 : v0.oneCell' = true) (h1 : v1.oneCell' = true) : BuildIs Try.prog 47 [(0, v0), (1, v1)] (.agg #[v0, v1, .int .i64 0, .int .i64 0, .int .i64 0, .bool false]) := by
  intro w
  simp [Instr.build, Instr.fill, cells_agg, Try.runUnderlying47, Try.zeroValue47, Try.sizeOf3, Try.sizeOf31, cells_one h0, cells_one h1]
theorem bld91_0 (v0 : Value) (h0 : v0.oneCell' = true) : BuildIs Try.prog 91 [(0, v0)] (.agg #[v0, .int .i64 0, .int .i64 0, .int .i64 0, .int .u64 0]) := by
  intro w
  simp [Instr.build, Instr.fill, cells_agg, Try.runUnderlying91, Try.zeroValue91, Try.sizeOf3, Try.sizeOf89, cells_one h0]
theorem bld91_0_1 (v0 v1 : Value) (h0 : v0.oneCell' = true) (h1 : v1.oneCell' = true) : BuildIs Try.prog 91 [(0, v0), (1, v1)] (.agg #[v0, v1, .int .i64 0, .int .i64 0, .int .u64 0]) := by
  intro w
  simp [Instr.build, Instr.fill, cells_agg, Try.runUnderlying91, Try.zeroValue91, Try.sizeOf3, Try.sizeOf89, cells_one h0, cells_one h1]
theorem bld91_0_1_2_3_4 (v0 v1 v2 v3 v4 : Value) (h0 : v0.oneCell' = true) (h1 : v1.oneCell' = true) (h2 : v2.oneCell' = true) (h3 : v3.oneCell' = true) (h4 : v4.oneCell' = true) : BuildIs Try.prog 91 [(0, v0), (1, v1), (2, v2), (3, v3), (4, v4)] (.agg #[v0, v1, v2, v3, v4]) := by
  intro w
  simp [Instr.build, Instr.fill, cells_agg, Try.runUnderlying91, Try.zeroValue91, Try.sizeOf3, Try.sizeOf89, cells_one h0, cells_one h1, cells_one h2, cells_one h3, cells_one h4]
theorem bld93_  : BuildIs Try.prog 93 [] (.agg #[.int .i64 0, .int .i64 0, .bool false]) := by
  intro w
  simp [Instr.build, Instr.fill, cells_agg, Try.runUnderlying93, Try.zeroValue93, Try.sizeOf3, Try.sizeOf4]
theorem bld93_0_1_2 (v0 v1 v2 : Value) (h0 : v0.oneCell' = true) (h1 : v1.oneCell' = true) (h2 : v2.oneCell' = true) : BuildIs Try.prog 93 [(0, v0), (1, v1), (2, v2)] (.agg #[v0, v1, v2]) := by
  intro w
  simp [Instr.build, Instr.fill, cells_agg, Try.runUnderlying93, Try.zeroValue93, Try.sizeOf3, Try.sizeOf4, cells_one h0, cells_one h1, cells_one h2]
theorem bld96_  : BuildIs Try.prog 96 [] (.agg #[.int .i64 0, .int .i64 0, .bool false]) := by
  intro w
  simp [Instr.build, Instr.fill, cells_agg, Try.runUnderlying96, Try.zeroValue96, Try.sizeOf3, Try.sizeOf4]
theorem bld96_0_1_2 (v0 v1 v2 : Value) (h0 : v0.oneCell' = true) (h1 : v1.oneCell' = true) (h2 : v2.oneCell' = true) : BuildIs Try.prog 96 [(0, v0), (1, v1), (2, v2)] (.agg #[v0, v1, v2]) := by
  intro w
  simp [Instr.build, Instr.fill, cells_agg, Try.runUnderlying96, Try.zeroValue96, Try.sizeOf3, Try.sizeOf4, cells_one h0, cells_one h1, cells_one h2]
theorem fld107_0 : FieldIs Try.prog 107 0 0 := FieldIs.mk Try.runUnderlying107 rfl Try.sizeOf25 rfl rfl
theorem fld107_1 : FieldIs Try.prog 107 1 1 := FieldIs.mk Try.runUnderlying107 rfl Try.sizeOf3 rfl rfl
theorem fld107_2 : FieldIs Try.prog 107 2 2 := FieldIs.mk Try.runUnderlying107 rfl Try.sizeOf104 rfl rfl
theorem fld107_3 : FieldIs Try.prog 107 3 3 := FieldIs.mk Try.runUnderlying107 rfl Try.sizeOf105 rfl rfl
theorem fld115_0 : FieldIs Try.prog 115 0 0 := FieldIs.mk Try.runUnderlying115 rfl Try.sizeOf31 rfl rfl
theorem fld115_1 : FieldIs Try.prog 115 1 4 := FieldIs.mk Try.runUnderlying115 rfl Try.sizeOf4 rfl rfl
theorem fld119_0 : FieldIs Try.prog 119 0 0 := FieldIs.mk Try.runUnderlying119 rfl Try.sizeOf116 rfl rfl
theorem fld119_1 : FieldIs Try.prog 119 1 320 := FieldIs.mk Try.runUnderlying119 rfl Try.sizeOf117 rfl rfl
theorem fld119_2 : FieldIs Try.prog 119 2 321 := FieldIs.mk Try.runUnderlying119 rfl Try.sizeOf3 rfl rfl
theorem fld119_3 : FieldIs Try.prog 119 3 322 := FieldIs.mk Try.runUnderlying119 rfl Try.sizeOf3 rfl rfl
theorem fld125_0 : FieldIs Try.prog 125 0 0 := FieldIs.mk Try.runUnderlying125 rfl Try.sizeOf37 rfl rfl
theorem fld125_1 : FieldIs Try.prog 125 1 1 := FieldIs.mk Try.runUnderlying125 rfl Try.sizeOf37 rfl rfl
theorem fld141_0 : FieldIs Try.prog 141 0 0 := FieldIs.mk Try.runUnderlying141 rfl Try.sizeOf139 rfl rfl
theorem fld141_1 : FieldIs Try.prog 141 1 1 := FieldIs.mk Try.runUnderlying141 rfl Try.sizeOf31 rfl rfl
theorem fld143_0 : FieldIs Try.prog 143 0 0 := FieldIs.mk Try.runUnderlying143 rfl Try.sizeOf24 rfl rfl
theorem fld143_1 : FieldIs Try.prog 143 1 1 := FieldIs.mk Try.runUnderlying143 rfl Try.sizeOf136 rfl rfl
theorem fld151_0 : FieldIs Try.prog 151 0 0 := FieldIs.mk Try.runUnderlying151 rfl Try.sizeOf148 rfl rfl
theorem fld151_1 : FieldIs Try.prog 151 1 1 := FieldIs.mk Try.runUnderlying151 rfl Try.sizeOf149 rfl rfl
theorem fld170_0 : FieldIs Try.prog 170 0 0 := FieldIs.mk Try.runUnderlying170 rfl Try.sizeOf168 rfl rfl
theorem fld170_1 : FieldIs Try.prog 170 1 1 := FieldIs.mk Try.runUnderlying170 rfl Try.sizeOf3 rfl rfl
theorem fld170_2 : FieldIs Try.prog 170 2 2 := FieldIs.mk Try.runUnderlying170 rfl Try.sizeOf3 rfl rfl
theorem fld31_0 : FieldIs Try.prog 31 0 0 := FieldIs.mk Try.runUnderlying31 rfl Try.sizeOf3 rfl rfl
theorem fld31_1 : FieldIs Try.prog 31 1 1 := FieldIs.mk Try.runUnderlying31 rfl Try.sizeOf3 rfl rfl
theorem fld31_2 : FieldIs Try.prog 31 2 2 := FieldIs.mk Try.runUnderlying31 rfl Try.sizeOf3 rfl rfl
theorem fld31_3 : FieldIs Try.prog 31 3 3 := FieldIs.mk Try.runUnderlying31 rfl Try.sizeOf4 rfl rfl
theorem fld47_0 : FieldIs Try.prog 47 0 0 := FieldIs.mk Try.runUnderlying47 rfl Try.sizeOf3 rfl rfl
theorem fld47_1 : FieldIs Try.prog 47 1 1 := FieldIs.mk Try.runUnderlying47 rfl Try.sizeOf3 rfl rfl
theorem fld47_2 : FieldIs Try.prog 47 2 2 := FieldIs.mk Try.runUnderlying47 rfl Try.sizeOf31 rfl rfl
theorem fld54_0 : FieldIs Try.prog 54 0 0 := FieldIs.mk Try.runUnderlying54 rfl Try.sizeOf3 rfl rfl
theorem fld54_1 : FieldIs Try.prog 54 1 1 := FieldIs.mk Try.runUnderlying54 rfl Try.sizeOf3 rfl rfl
theorem fld54_2 : FieldIs Try.prog 54 2 2 := FieldIs.mk Try.runUnderlying54 rfl Try.sizeOf51 rfl rfl
theorem fld54_3 : FieldIs Try.prog 54 3 66 := FieldIs.mk Try.runUnderlying54 rfl Try.sizeOf52 rfl rfl
theorem fld91_0 : FieldIs Try.prog 91 0 0 := FieldIs.mk Try.runUnderlying91 rfl Try.sizeOf3 rfl rfl
theorem fld91_1 : FieldIs Try.prog 91 1 1 := FieldIs.mk Try.runUnderlying91 rfl Try.sizeOf3 rfl rfl
theorem fld91_2 : FieldIs Try.prog 91 2 2 := FieldIs.mk Try.runUnderlying91 rfl Try.sizeOf3 rfl rfl
theorem fld91_3 : FieldIs Try.prog 91 3 3 := FieldIs.mk Try.runUnderlying91 rfl Try.sizeOf3 rfl rfl
theorem fld91_4 : FieldIs Try.prog 91 4 4 := FieldIs.mk Try.runUnderlying91 rfl Try.sizeOf89 rfl rfl
theorem fld93_0 : FieldIs Try.prog 93 0 0 := FieldIs.mk Try.runUnderlying93 rfl Try.sizeOf3 rfl rfl
theorem fld93_1 : FieldIs Try.prog 93 1 1 := FieldIs.mk Try.runUnderlying93 rfl Try.sizeOf3 rfl rfl
theorem fld93_2 : FieldIs Try.prog 93 2 2 := FieldIs.mk Try.runUnderlying93 rfl Try.sizeOf4 rfl rfl
theorem fld96_0 : FieldIs Try.prog 96 0 0 := FieldIs.mk Try.runUnderlying96 rfl Try.sizeOf3 rfl rfl
theorem fld96_1 : FieldIs Try.prog 96 1 1 := FieldIs.mk Try.runUnderlying96 rfl Try.sizeOf3 rfl rfl
theorem fld96_2 : FieldIs Try.prog 96 2 2 := FieldIs.mk Try.runUnderlying96 rfl Try.sizeOf4 rfl rfl
end Go.Proofs.Ytakmbbgnnbpkoaa
