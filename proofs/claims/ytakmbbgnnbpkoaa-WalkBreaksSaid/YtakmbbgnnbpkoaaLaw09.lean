import Derived.Test.YtakmbbgnnbpkoaaWalk2
--ARR
--INF
--DEEP
--LOADS loadRT loadRA loadRN loadRM
--AGGLOADS loadRArc
namespace Go.Proofs.Ytakmbbgnnbpkoaa
open Go.Rr Go Gr
set_option linter.unusedVariables false
def akA : Arc := ⟨0, 1, 2, false⟩
def akB : Arc := ⟨1, 0, 3, false⟩
def akS1 : St := insS 2 4 noS 4 akA
def akS : St := insS 2 4 akS1 7 akB
theorem ak1 : ccode 2 akS 0 0 [4, 7] = 0 := by decide +kernel
theorem ak2 : ccode 2 akS 0 1 [4, 7] = 8 := by decide +kernel
theorem ak3 : ccode 2 akS 0 2 [] = 1 := by decide +kernel
theorem ak4 : (srun akS [4, 7]).1 = 5 := by decide +kernel
theorem ak5 : ¬ (vcode 2 akS 0 [4, 7] = 0 ∧ (vlist 2 akS 0 [4, 7]).Nodup) := by decide +kernel
theorem ak6 : vcode 2 akS 0 [4] = 0 ∧ (vlist 2 akS 0 [4]).Nodup := by decide +kernel
set_option maxHeartbeats 2000000 in
theorem awake09_ct {w : World} {L : List HProp} (H : Holds w L) : CT Try.prog 39 [] w fun u w' => u = .bool true ∧ Holds w' L := by
  have g0 : GOk 2 4 noS := ok_none (by omega) (by omega) (by omega) (by omega)
  have g1 : GOk 2 4 akS1 := ok_ins g0 _ _
  have g2 : GOk 2 4 akS := ok_ins g1 _ _
  refine CT.enter (N := 47) Try.func39 rfl rfl rfl rfl ?_
  refine W.seq (fun K0 hK0 => ?_)
  refine W.region ?_
  refine O.ex (Ex.assign rfl) rfl ?_
  refine O.nil ?_
  refine hK0 _ _ _ ?_
  refine W.seq (fun K1 hK1 => ?_)
  refine W.region ?_
  refine O.callF Try.call25 rfl rfl (CT.mono (gnew_ct (n := 2) (most := 4) (by assumption)) ?_)
  rintro _ w (⟨hno, -⟩ | ⟨-, g, rfl, H⟩)
  · exact absurd ⟨⟨by omega, by omega⟩, by omega, by omega⟩ hno
  refine O.ex (Ex.move rfl) rfl ?_
  refine O.ex (Ex.extract rfl rfl) rfl ?_
  refine O.ex (Ex.extract rfl rfl) rfl ?_
  refine O.ex (Ex.assign rfl) rfl ?_
  refine O.ex (Ex.assign rfl) rfl ?_
  refine O.nil ?_
  refine hK1 _ _ _ ?_
  refine W.seq (fun K2 hK2 => ?_)
  refine W.seq (fun K3 hK3 => ?_)
  refine W.region ?_
  refine O.ex (Ex.move rfl) rfl ?_
  refine O.ex (Ex.nilEq Try.runUnderlying24 rfl rfl) rfl ?_
  refine O.nil ?_
  refine hK3 _ _ _ ?_
  refine W.known_f rfl (by first | rfl | decide | exact decide_eq_true ak1 | exact decide_eq_true ak2 | exact decide_eq_true ak3 | exact decide_eq_true ak4 | exact decide_eq_true ak5) ?_
  refine W.skip ?_
  refine hK2 _ _ _ ?_
  refine W.seq (fun K4 hK4 => ?_)
  refine W.region ?_
  refine O.ex (Ex.move rfl) rfl ?_
  refine O.ex (Ex.build rfl (bld31_0_1_2 _ _ _ (by first | rfl | assumption) (by first | rfl | assumption) (by first | rfl | assumption))) rfl ?_
  refine O.callF Try.call32 rfl rfl (CT.mono (ginsert_ct (a := akA) g0 (Holds.to (by assumption))) ?_)
  rintro _ w ⟨-, H⟩
  have H : Holds w (Gh g 2 4 akS1 :: L) := Holds.to H
  refine O.nil ?_
  refine hK4 _ _ _ ?_
  refine W.seq (fun K5 hK5 => ?_)
  refine W.region ?_
  refine O.ex (Ex.move rfl) rfl ?_
  refine O.ex (Ex.build rfl (bld31_0_1_2 _ _ _ (by first | rfl | assumption) (by first | rfl | assumption) (by first | rfl | assumption))) rfl ?_
  refine O.callF Try.call32 rfl rfl (CT.mono (ginsert_ct (a := akB) g1 (Holds.to (by assumption))) ?_)
  rintro _ w ⟨-, H⟩
  have H : Holds w (Gh g 2 4 akS :: L) := Holds.to H
  refine O.nil ?_
  refine hK5 _ _ _ ?_
  refine W.seq (fun K6 hK6 => ?_)
  refine W.region ?_
  refine O.ex (Ex.move rfl) rfl ?_
  refine O.buildK (e := Value.int .i64) (vs := [(0, .int .i64 4), (1, .int .i64 7)]) [4, 7] Try.runUnderlying37 Try.sizeOf3 Try.zeroValue3 rfl rfl rfl rfl rfl rfl (fun v16 w hv16 H => ?_)
  refine O.callF Try.call40 rfl rfl (CT.mono (wcheck_ct (g := g) (S := arr 3 (Value.int .i64) v16 [4, 7]) (xs := [4, 7]) g2 Rd.ofArr (by decide) (Holds.to (by assumption))) ?_)
  rintro _ w ⟨rfl, H⟩
  refine O.ex (Ex.eqlI rfl rfl) rfl ?_
  refine O.ex (Ex.move rfl) rfl ?_
  refine O.known (t := 19) (c := true) rfl (by first | rfl | decide | exact decide_eq_true ak1 | exact decide_eq_true ak2 | exact decide_eq_true ak3 | exact decide_eq_true ak4 | exact decide_eq_true ak5) ?_
  refine O.guard_t rfl rfl ?_
  refine O.ex (Ex.move rfl) rfl ?_
  refine O.guard_t rfl rfl ?_
  refine O.buildK (e := Value.int .i64) (vs := [(0, .int .i64 4), (1, .int .i64 7)]) [4, 7] Try.runUnderlying37 Try.sizeOf3 Try.zeroValue3 rfl rfl rfl rfl rfl rfl (fun v21 w hv21 H => ?_)
  refine O.guard_t rfl rfl ?_
  refine O.callF Try.call40 rfl rfl (CT.mono (wcheck_ct (g := g) (S := arr 3 (Value.int .i64) v21 [4, 7]) (xs := [4, 7]) g2 Rd.ofArr (by decide) (Holds.to (by assumption))) ?_)
  rintro _ w ⟨rfl, H⟩
  refine O.guard_t rfl rfl ?_
  refine O.ex (Ex.eqlI rfl rfl) rfl ?_
  refine O.ex (Ex.pick_t rfl rfl) rfl ?_
  refine O.ex (Ex.move rfl) rfl ?_
  refine O.known (t := 25) (c := true) rfl (by first | rfl | decide | exact decide_eq_true ak1 | exact decide_eq_true ak2 | exact decide_eq_true ak3 | exact decide_eq_true ak4 | exact decide_eq_true ak5) ?_
  refine O.guard_t rfl rfl ?_
  refine O.ex (Ex.move rfl) rfl ?_
  refine O.guard_t rfl rfl ?_
  refine O.callF Try.call40 rfl rfl (CT.mono (wcheck_ct (g := g) (S := arr 3 (Value.int .i64) v21 [4, 7]) (xs := []) g2 Rd.nil (by decide) (Holds.to (by assumption))) ?_)
  rintro _ w ⟨rfl, H⟩
  refine O.guard_t rfl rfl ?_
  refine O.ex (Ex.eqlI rfl rfl) rfl ?_
  refine O.ex (Ex.pick_t rfl rfl) rfl ?_
  refine O.ex (Ex.move rfl) rfl ?_
  refine O.known (t := 30) (c := true) rfl (by first | rfl | decide | exact decide_eq_true ak1 | exact decide_eq_true ak2 | exact decide_eq_true ak3 | exact decide_eq_true ak4 | exact decide_eq_true ak5) ?_
  refine O.guard_t rfl rfl ?_
  refine O.ex (Ex.move rfl) rfl ?_
  refine O.guard_t rfl rfl ?_
  refine O.buildK (e := Value.int .i64) (vs := [(0, .int .i64 4), (1, .int .i64 7)]) [4, 7] Try.runUnderlying37 Try.sizeOf3 Try.zeroValue3 rfl rfl rfl rfl rfl rfl (fun v32 w hv32 H => ?_)
  refine O.guard_t rfl rfl ?_
  refine O.callF Try.call42 rfl rfl (CT.mono (wsum_ct (g := g) (S := arr 3 (Value.int .i64) v32 [4, 7]) (xs := [4, 7]) g2 Rd.ofArr (by decide) (Holds.to (by assumption))) ?_)
  rintro _ w ⟨rfl, H⟩
  refine O.guard_t rfl rfl ?_
  refine O.ex (Ex.eqlI rfl rfl) rfl ?_
  refine O.ex (Ex.pick_t rfl rfl) rfl ?_
  refine O.ex (Ex.move rfl) rfl ?_
  refine O.known (t := 36) (c := true) rfl (by first | rfl | decide | exact decide_eq_true ak1 | exact decide_eq_true ak2 | exact decide_eq_true ak3 | exact decide_eq_true ak4 | exact decide_eq_true ak5) ?_
  refine O.guard_t rfl rfl ?_
  refine O.ex (Ex.move rfl) rfl ?_
  refine O.guard_t rfl rfl ?_
  refine O.buildK (e := Value.int .i64) (vs := [(0, .int .i64 4), (1, .int .i64 7)]) [4, 7] Try.runUnderlying37 Try.sizeOf3 Try.zeroValue3 rfl rfl rfl rfl rfl rfl (fun v38 w hv38 H => ?_)
  refine O.guard_t rfl rfl ?_
  refine O.callF Try.call47 rfl rfl (CT.mono (wsimple_ct (g := g) (S := arr 3 (Value.int .i64) v38 [4, 7]) (xs := [4, 7]) g2 Rd.ofArr (by decide) (Holds.to (by assumption))) ?_)
  rintro _ w ⟨rfl, H⟩
  refine O.guard_t rfl rfl ?_
  refine O.ex (by first | exact Ex.notD rfl | exact Ex.not rfl) rfl ?_
  refine O.ex (Ex.pick_t rfl rfl) rfl ?_
  refine O.ex (Ex.move rfl) rfl ?_
  refine O.known (t := 42) (c := true) rfl (by first | rfl | decide | exact decide_eq_true ak1 | exact decide_eq_true ak2 | exact decide_eq_true ak3 | exact decide_eq_true ak4 | exact decide_eq_true ak5) ?_
  refine O.guard_t rfl rfl ?_
  refine O.ex (Ex.move rfl) rfl ?_
  refine O.guard_t rfl rfl ?_
  refine O.buildK (e := Value.int .i64) (vs := [(0, .int .i64 4)]) [4] Try.runUnderlying37 Try.sizeOf3 Try.zeroValue3 rfl rfl rfl rfl rfl rfl (fun v44 w hv44 H => ?_)
  refine O.guard_t rfl rfl ?_
  refine O.callF Try.call47 rfl rfl (CT.mono (wsimple_ct (g := g) (S := arr 3 (Value.int .i64) v44 [4]) (xs := [4]) g2 Rd.ofArr (by decide) (Holds.to (by assumption))) ?_)
  rintro _ w ⟨rfl, H⟩
  refine O.ex (Ex.pick_t rfl rfl) rfl ?_
  refine O.ex (Ex.assign rfl) rfl ?_
  refine O.nil ?_
  refine hK6 _ _ _ ?_
  refine W.ret ?_
  try dsimp only [thenQ, blockQ, retQ]
  first | refine ⟨_, ⟨_, _, rfl, rfl, rfl⟩, ?_⟩ | (refine retD_mark ?_; intro w H; refine ⟨_, ⟨_, _, rfl, rfl, rfl⟩, ?_⟩) | (refine retD_mark2 ?_; intro w H; refine ⟨_, ⟨_, _, rfl, rfl, rfl⟩, ?_⟩)
  exact ⟨by simp only [oneOf]; exact congrArg Value.bool (decide_eq_true ak6), Holds.to (by assumption)⟩
end Go.Proofs.Ytakmbbgnnbpkoaa
