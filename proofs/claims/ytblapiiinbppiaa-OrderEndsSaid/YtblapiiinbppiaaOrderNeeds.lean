import Derived.Test.YtblapiiinbppiaaOrder3
--ARR
namespace Go.Proofs.Ytblapiiinbppiaa
open Go.Rr Go Hp Wt
set_option linter.unusedVariables false
theorem wf_rem10 {q : Int} (hq : (Lit.int .u8 q).wf = true) : (Lit.int .u8 (q % 10)).wf = true := by
  obtain ⟨q0, q1⟩ := bounds_u8 hq
  have h0 : 0 ≤ q % 10 := Int.emod_nonneg _ (by decide)
  have h1 : q % 10 < 10 := Int.emod_lt_of_pos _ (by decide)
  simp [Lit.wf, IntKind.min, IntKind.max, IntKind.bits, IntKind.signed]
  omega
set_option maxHeartbeats 2000000 in
theorem orderNeeds_ct {w0 : World} {q v settles : Int} {lv : Value} {l : List Step} (hq : (Lit.int .u8 q).wf = true) (hx : SlIn w0 3 Step.enc lv l) (hl : l.length ≤ 9223372036854775807) :
    CT Try.prog 11 [.int .u8 q, lv, .int .i64 v, .int .i64 settles] w0 fun y w' => y = .bool true ∧ RowKit.Below w0.heap.size w0 w' := by
  have H := Holds.base_refl w0
  obtain ⟨q0, q1⟩ := bounds_u8 hq
  have hq10 := wf_rem10 hq
  refine CT.enter (N := 80) Try.func11 rfl rfl rfl rfl ?_
  refine W.seq (fun K0 hK0 => ?_)
  refine W.region ?_
  refine O.ex (Ex.assign rfl) rfl ?_
  refine O.nil ?_
  refine hK0 _ _ _ ?_
  refine W.seq (fun K1 hK1 => ?_)
  refine W.seq (fun K2 hK2 => ?_)
  refine W.region ?_
  refine O.callF Try.call43 rfl rfl (CT.mono (awake14_ct (Holds.to (by assumption))) ?_)
  rintro _ w ⟨rfl, H⟩
  refine O.ex (by first | exact Ex.notD rfl | exact Ex.not rfl) rfl ?_
  refine O.nil ?_
  refine hK2 _ _ _ ?_
  refine W.known_f rfl (by first | rfl | decide | exact decide_eq_false (fun hh => hh hv) | exact decide_eq_true hv | exact decide_eq_true rfl) ?_
  refine W.skip ?_
  refine hK1 _ _ _ ?_
  refine W.seq (fun K3 hK3 => ?_)
  refine W.region ?_
  refine O.ex (Ex.move rfl) rfl ?_
  refine O.ex (by first | exact Ex.remI rfl rfl | exact Ex.rem rfl rfl (by omega) rfl) rfl ?_
  refine O.ex (Ex.move rfl) rfl ?_
  refine O.callF Try.call16 rfl rfl (CT.mono (made_ct hq10 hx hl (Holds.to (by assumption))) ?_)
  rintro _ w ⟨m, r, n, c, hg, rfl, H⟩
  refine O.ex (Ex.move rfl) rfl ?_
  refine O.ex (Ex.extract rfl rfl) rfl ?_
  refine O.ex (Ex.extract rfl rfl) rfl ?_
  refine O.ex (Ex.assign rfl) rfl ?_
  refine O.ex (Ex.assign rfl) rfl ?_
  refine O.nil ?_
  refine hK3 _ _ _ ?_
  refine W.seq (fun K4 hK4 => ?_)
  refine W.seq (fun K5 hK5 => ?_)
  refine W.region ?_
  refine O.ex (Ex.move rfl) rfl ?_
  refine O.ex (Ex.nilEq Try.runUnderlying25 rfl rfl) rfl ?_
  refine O.nil ?_
  refine hK5 _ _ _ ?_
  refine W.known_f rfl (by first | rfl | decide | exact decide_eq_false (fun hh => hh hv) | exact decide_eq_true hv | exact decide_eq_true rfl) ?_
  refine W.skip ?_
  refine hK4 _ _ _ ?_
  refine W.seq (fun K6 hK6 => ?_)
  refine W.region ?_
  rcases Classical.em (0 ≤ v ∧ v < n) with hv | hv
  · refine O.ex (Ex.move rfl) rfl ?_
    refine O.ex (Ex.move rfl) rfl ?_
    refine O.ex (Ex.move rfl) rfl ?_
    refine O.callF Try.call44 rfl rfl (CT.mono (needV_ct hg hv (Holds.to (by assumption))) ?_)
    rintro _ w ⟨rfl, H⟩
    refine O.ex (Ex.move rfl) rfl ?_
    refine O.ex (Ex.extract rfl rfl) rfl ?_
    refine O.ex (Ex.extract rfl rfl) rfl ?_
    refine O.ex (Ex.assign rfl) rfl ?_
    refine O.ex (Ex.assign rfl) rfl ?_
    refine O.nil ?_
    refine hK6 _ _ _ ?_
    refine W.seq (fun K7 hK7 => ?_)
    refine W.region ?_
    refine O.ex (Ex.move rfl) rfl ?_
    refine O.ex (Ex.move rfl) rfl ?_
    refine O.ex (Ex.move rfl) rfl ?_
    refine O.callF Try.call45 rfl rfl (CT.mono (diffV_ct hg hv (Holds.to (by assumption))) ?_)
    rintro _ w ⟨rfl, H⟩
    refine O.ex (Ex.move rfl) rfl ?_
    refine O.ex (Ex.extract rfl rfl) rfl ?_
    refine O.ex (Ex.extract rfl rfl) rfl ?_
    refine O.ex (Ex.assign rfl) rfl ?_
    refine O.ex (Ex.assign rfl) rfl ?_
    refine O.nil ?_
    refine hK7 _ _ _ ?_
    refine W.seq (fun K8 hK8 => ?_)
    refine W.seq (fun K9 hK9 => ?_)
    refine W.region ?_
    refine O.ex (Ex.move rfl) rfl ?_
    refine O.ex (Ex.move rfl) rfl ?_
    refine O.callF Try.call30 rfl rfl (CT.mono (vertexr_ct (Holds.to (by assumption))) ?_)
    rintro _ w ⟨rfl, H⟩
    refine O.ex (by first | exact Ex.notD rfl | exact Ex.not rfl) rfl ?_
    refine O.nil ?_
    refine hK9 _ _ _ ?_
    refine W.known_f rfl (by first | rfl | decide | exact decide_eq_false (fun hh => hh hv) | exact decide_eq_true hv | exact decide_eq_true rfl) ?_
    refine W.skip ?_
    refine hK8 _ _ _ ?_
    refine W.seq (fun K10 hK10 => ?_)
    refine W.region ?_
    refine O.ex (Ex.move rfl) rfl ?_
    refine O.ex (Ex.eqlI rfl rfl) rfl ?_
    refine O.ex (Ex.move rfl) rfl ?_
    refine O.known (t := 60) (c := true) rfl (by first | rfl | decide | exact decide_eq_false (fun hh => hh hv) | exact decide_eq_true hv | exact decide_eq_true rfl) ?_
    refine O.guard_t rfl rfl ?_
    refine O.ex (Ex.move rfl) rfl ?_
    refine O.guard_t rfl rfl ?_
    refine O.ex (Ex.eqlI rfl rfl) rfl ?_
    refine O.ex (Ex.pick_t rfl rfl) rfl ?_
    refine O.ex (Ex.move rfl) rfl ?_
    refine O.known (t := 64) (c := true) rfl (by first | rfl | decide | exact decide_eq_false (fun hh => hh hv) | exact decide_eq_true hv | exact decide_eq_true rfl) ?_
    refine O.guard_t rfl rfl ?_
    refine O.ex (Ex.move rfl) rfl ?_
    refine O.guard_t rfl rfl ?_
    refine O.ex (Ex.move rfl) rfl ?_
    refine O.guard_t rfl rfl ?_
    refine O.ex (Ex.move rfl) rfl ?_
    refine O.guard_t rfl rfl ?_
    refine O.ex (Ex.move rfl) rfl ?_
    refine O.guard_t rfl rfl ?_
    refine O.callF Try.call46 rfl rfl (CT.mono (refNeed_ct hg (Holds.to (by assumption))) ?_)
    rintro _ w ⟨rfl, H⟩
    refine O.guard_t rfl rfl ?_
    refine O.ex (Ex.eqlI rfl rfl) rfl ?_
    refine O.ex (Ex.pick_t rfl rfl) rfl ?_
    refine O.ex (Ex.move rfl) rfl ?_
    refine O.known (t := 72) (c := true) rfl (by first | rfl | decide | exact decide_eq_false (fun hh => hh hv) | exact decide_eq_true hv | exact decide_eq_true rfl) ?_
    refine O.guard_t rfl rfl ?_
    refine O.ex (Ex.move rfl) rfl ?_
    refine O.guard_t rfl rfl ?_
    refine O.ex (Ex.move rfl) rfl ?_
    refine O.guard_t rfl rfl ?_
    refine O.ex (Ex.move rfl) rfl ?_
    refine O.guard_t rfl rfl ?_
    refine O.ex (Ex.move rfl) rfl ?_
    refine O.guard_t rfl rfl ?_
    refine O.callF Try.call47 rfl rfl (CT.mono (refDiff_ct hg (Holds.to (by assumption))) ?_)
    rintro _ w ⟨rfl, H⟩
    refine O.guard_t rfl rfl ?_
    refine O.ex (Ex.eqlI rfl rfl) rfl ?_
    refine O.ex (Ex.pick_t rfl rfl) rfl ?_
    refine O.ex (Ex.assign rfl) rfl ?_
    refine O.nil ?_
    refine hK10 _ _ _ ?_
    refine W.ret ?_
    try dsimp only [thenQ, blockQ, retQ]
    first | refine ⟨_, ⟨_, _, rfl, rfl, rfl⟩, ?_⟩ | (refine retD_mark ?_; intro w H; refine ⟨_, ⟨_, _, rfl, rfl, rfl⟩, ?_⟩) | (refine retD_mark2 ?_; intro w H; refine ⟨_, ⟨_, _, rfl, rfl, rfl⟩, ?_⟩)
    exact ⟨by first | rfl | exact congrArg Value.bool (decide_eq_true rfl), Holds.base_below (L := []) (Holds.to (by assumption))⟩
  · refine O.ex (Ex.move rfl) rfl ?_
    refine O.ex (Ex.move rfl) rfl ?_
    refine O.ex (Ex.move rfl) rfl ?_
    refine O.callF Try.call44 rfl rfl (CT.mono (needU_ct hg hv (Holds.to (by assumption))) ?_)
    rintro _ w ⟨rfl, H⟩
    refine O.ex (Ex.move rfl) rfl ?_
    refine O.ex (Ex.extract rfl rfl) rfl ?_
    refine O.ex (Ex.extract rfl rfl) rfl ?_
    refine O.ex (Ex.assign rfl) rfl ?_
    refine O.ex (Ex.assign rfl) rfl ?_
    refine O.nil ?_
    refine hK6 _ _ _ ?_
    refine W.seq (fun K11 hK11 => ?_)
    refine W.region ?_
    refine O.ex (Ex.move rfl) rfl ?_
    refine O.ex (Ex.move rfl) rfl ?_
    refine O.ex (Ex.move rfl) rfl ?_
    refine O.callF Try.call45 rfl rfl (CT.mono (diffU_ct hg hv (Holds.to (by assumption))) ?_)
    rintro _ w ⟨rfl, H⟩
    refine O.ex (Ex.move rfl) rfl ?_
    refine O.ex (Ex.extract rfl rfl) rfl ?_
    refine O.ex (Ex.extract rfl rfl) rfl ?_
    refine O.ex (Ex.assign rfl) rfl ?_
    refine O.ex (Ex.assign rfl) rfl ?_
    refine O.nil ?_
    refine hK11 _ _ _ ?_
    refine W.seq (fun K12 hK12 => ?_)
    refine W.seq (fun K13 hK13 => ?_)
    refine W.region ?_
    refine O.ex (Ex.move rfl) rfl ?_
    refine O.ex (Ex.move rfl) rfl ?_
    refine O.callF Try.call30 rfl rfl (CT.mono (vertexr_ct (Holds.to (by assumption))) ?_)
    rintro _ w ⟨rfl, H⟩
    refine O.ex (by first | exact Ex.notD rfl | exact Ex.not rfl) rfl ?_
    refine O.nil ?_
    refine hK13 _ _ _ ?_
    refine W.known_t rfl (by first | rfl | decide | exact decide_eq_false (fun hh => hh hv) | exact decide_eq_true hv | exact decide_eq_true rfl) ?_
    refine W.seq (fun K14 hK14 => ?_)
    refine W.region ?_
    refine O.ex (Ex.move rfl) rfl ?_
    refine O.ex (Ex.eqlI rfl rfl) rfl ?_
    refine O.ex (Ex.move rfl) rfl ?_
    refine O.known (t := 46) (c := true) rfl (by first | rfl | decide | exact decide_eq_false (fun hh => hh hv) | exact decide_eq_true hv | exact decide_eq_true rfl) ?_
    refine O.guard_t rfl rfl ?_
    refine O.ex (Ex.move rfl) rfl ?_
    refine O.guard_t rfl rfl ?_
    refine O.ex (Ex.eqlI rfl rfl) rfl ?_
    refine O.ex (Ex.pick_t rfl rfl) rfl ?_
    refine O.ex (Ex.move rfl) rfl ?_
    refine O.known (t := 50) (c := true) rfl (by first | rfl | decide | exact decide_eq_false (fun hh => hh hv) | exact decide_eq_true hv | exact decide_eq_true rfl) ?_
    refine O.guard_t rfl rfl ?_
    refine O.ex (Ex.move rfl) rfl ?_
    refine O.guard_t rfl rfl ?_
    refine O.ex (Ex.eqlI rfl rfl) rfl ?_
    refine O.ex (Ex.pick_t rfl rfl) rfl ?_
    refine O.ex (Ex.move rfl) rfl ?_
    refine O.known (t := 54) (c := true) rfl (by first | rfl | decide | exact decide_eq_false (fun hh => hh hv) | exact decide_eq_true hv | exact decide_eq_true rfl) ?_
    refine O.guard_t rfl rfl ?_
    refine O.ex (Ex.move rfl) rfl ?_
    refine O.guard_t rfl rfl ?_
    refine O.ex (Ex.eqlI rfl rfl) rfl ?_
    refine O.ex (Ex.pick_t rfl rfl) rfl ?_
    refine O.ex (Ex.assign rfl) rfl ?_
    refine O.nil ?_
    refine hK14 _ _ _ ?_
    refine W.ret ?_
    try dsimp only [thenQ, blockQ, retQ]
    first | refine ⟨_, ⟨_, _, rfl, rfl, rfl⟩, ?_⟩ | (refine retD_mark ?_; intro w H; refine ⟨_, ⟨_, _, rfl, rfl, rfl⟩, ?_⟩) | (refine retD_mark2 ?_; intro w H; refine ⟨_, ⟨_, _, rfl, rfl, rfl⟩, ?_⟩)
    exact ⟨by first | rfl | exact congrArg Value.bool (decide_eq_true rfl), Holds.base_below (L := []) (Holds.to (by assumption))⟩
theorem orderNeeds_row {w0 : World} {q v settles : Int} {lv : Value} {l : List Step} (hq : (Lit.int .u8 q).wf = true) (hx : SlIn w0 3 Step.enc lv l) (hg : ∀ x ∈ l, x.ok) (hl : l.length ≤ maxLen) (hv : (Lit.int .i64 v).wf = true) (hs : (Lit.int .i64 settles).wf = true) :
    CT Try.prog 11 [.int .u8 q, lv, .int .i64 v, .int .i64 settles] w0 fun x w' => x = .bool true ∧ RowKit.Below w0.heap.size w0 w' :=
  orderNeeds_ct hq hx (by unfold maxLen at hl; omega)
end Go.Proofs.Ytblapiiinbppiaa
