import Derived.Test.YtliofdfhimmjmaaMesh
--ARR
namespace Go.Proofs.Ytliofdfhimmjmaa
open Go.Rr
set_option linter.unusedVariables false
theorem refNorm_ct {w : World} {a : Int} {L : List HProp} (H : Holds w L) (ha : Dst a) : CT Try.prog 45 [.int .i64 a] w fun x w' => x = .int .i64 a ∧ Holds w' L := by
  unfold Dst at ha
  refine CT.enter (N := 8) Try.func45 rfl rfl rfl rfl ?_
  refine W.seq (fun K0 hK0 => ?_)
  refine W.region ?_
  refine O.ex (Ex.assign rfl) rfl ?_
  refine O.nil ?_
  refine hK0 _ _ _ ?_
  refine W.seq (fun K1 hK1 => ?_)
  refine W.seq (fun K2 hK2 => ?_)
  refine W.region ?_
  refine O.ex (Ex.move rfl) rfl ?_
  refine O.ex (Ex.lss rfl rfl) rfl ?_
  refine O.nil ?_
  refine hK2 _ _ _ ?_
  refine W.known_f rfl (decide_eq_false (by omega)) ?_
  refine W.skip ?_
  refine hK1 _ _ _ ?_
  refine W.seq (fun K3 hK3 => ?_)
  refine W.seq (fun K4 hK4 => ?_)
  refine W.region ?_
  refine O.ex (Ex.move rfl) rfl ?_
  refine O.ex (Ex.gtr rfl rfl) rfl ?_
  refine O.nil ?_
  refine hK4 _ _ _ ?_
  refine W.known_f rfl (decide_eq_false (by omega)) ?_
  refine W.skip ?_
  refine hK3 _ _ _ ?_
  refine W.seq (fun K5 hK5 => ?_)
  refine W.region ?_
  refine O.ex (Ex.move rfl) rfl ?_
  refine O.ex (Ex.assign rfl) rfl ?_
  refine O.nil ?_
  refine hK5 _ _ _ ?_
  refine W.ret ?_
  try dsimp only [thenQ, blockQ, retQ]
  first | refine ⟨_, ⟨_, _, rfl, rfl, rfl⟩, ?_⟩ | (refine retD_mark ?_; intro w H; refine ⟨_, ⟨_, _, rfl, rfl, rfl⟩, ?_⟩) | (refine retD_mark2 ?_; intro w H; refine ⟨_, ⟨_, _, rfl, rfl, rfl⟩, ?_⟩)
  exact ⟨rfl, by first | assumption | exact Holds.to (by assumption)⟩
theorem refTwo_ct {w : World} {a b : Int} {L : List HProp} (H : Holds w L) (ha : Dst a) (hb : Dst b) : CT Try.prog 21 [.int .i64 a, .int .i64 b] w fun x w' => x = .int .i64 (two a b) ∧ Holds w' L := by
  have ha' := ha
  have hb' := hb
  unfold Dst at ha' hb'
  refine CT.enter (N := 30) Try.func21 rfl rfl rfl rfl ?_
  refine W.seq (fun K0 hK0 => ?_)
  refine W.region ?_
  refine O.ex (Ex.assign rfl) rfl ?_
  refine O.nil ?_
  refine hK0 _ _ _ ?_
  refine W.seq (fun K1 hK1 => ?_)
  refine W.region ?_
  refine O.ex (Ex.move rfl) rfl ?_
  refine O.callF Try.call45 rfl rfl (CT.mono (refNorm_ct (Holds.to (by assumption)) (by assumption)) ?_)
  rintro _ w ⟨rfl, H⟩
  refine O.ex (Ex.assign rfl) rfl ?_
  refine O.nil ?_
  refine hK1 _ _ _ ?_
  refine W.seq (fun K2 hK2 => ?_)
  refine W.region ?_
  refine O.ex (Ex.move rfl) rfl ?_
  refine O.callF Try.call45 rfl rfl (CT.mono (refNorm_ct (Holds.to (by assumption)) (by assumption)) ?_)
  rintro _ w ⟨rfl, H⟩
  refine O.ex (Ex.assign rfl) rfl ?_
  refine O.nil ?_
  refine hK2 _ _ _ ?_
  refine W.seq (fun K3 hK3 => ?_)
  refine W.seq (fun K4 hK4 => ?_)
  refine W.region ?_
  refine O.ex (Ex.move rfl) rfl ?_
  refine O.ex (Ex.eqlI rfl rfl) rfl ?_
  refine O.ex (Ex.move rfl) rfl ?_
  first | refine O.split_p (t := 11) rfl (fun h0 => ?_) (fun h0 => ?_) | refine O.split (t := 11) rfl (fun h0 => ?_) (fun h0 => ?_)
  · refine O.guard_f rfl rfl rfl rfl ?_
    refine O.guard_f rfl rfl rfl rfl ?_
    refine O.ex (Ex.pick_t rfl rfl) rfl ?_
    refine O.nil ?_
    refine hK4 _ _ _ ?_
    refine W.cond_t rfl ?_
    refine W.seq (fun K5 hK5 => ?_)
    refine W.region ?_
    refine O.ex (Ex.assign rfl) rfl ?_
    refine O.nil ?_
    refine hK5 _ _ _ ?_
    refine W.ret ?_
    try dsimp only [thenQ, blockQ, retQ]
    first | refine ⟨_, ⟨_, _, rfl, rfl, rfl⟩, ?_⟩ | (refine retD_mark ?_; intro w H; refine ⟨_, ⟨_, _, rfl, rfl, rfl⟩, ?_⟩) | (refine retD_mark2 ?_; intro w H; refine ⟨_, ⟨_, _, rfl, rfl, rfl⟩, ?_⟩)
    exact ⟨congrArg (Value.int .i64) (by unfold two; (repeat' split) <;> omega), Holds.to (by assumption)⟩
  · refine O.guard_t rfl rfl ?_
    refine O.ex (Ex.move rfl) rfl ?_
    refine O.guard_t rfl rfl ?_
    refine O.ex (Ex.eqlI rfl rfl) rfl ?_
    refine O.ex (Ex.pick_f rfl rfl) rfl ?_
    refine O.nil ?_
    refine hK4 _ _ _ ?_
    first | refine W.cond_p rfl (fun h1 => ?_) (fun h1 => ?_) | refine W.cond_b rfl (fun h1 => ?_) (fun h1 => ?_)
    · refine W.seq (fun K6 hK6 => ?_)
      refine W.region ?_
      refine O.ex (Ex.assign rfl) rfl ?_
      refine O.nil ?_
      refine hK6 _ _ _ ?_
      refine W.ret ?_
      try dsimp only [thenQ, blockQ, retQ]
      first | refine ⟨_, ⟨_, _, rfl, rfl, rfl⟩, ?_⟩ | (refine retD_mark ?_; intro w H; refine ⟨_, ⟨_, _, rfl, rfl, rfl⟩, ?_⟩) | (refine retD_mark2 ?_; intro w H; refine ⟨_, ⟨_, _, rfl, rfl, rfl⟩, ?_⟩)
      exact ⟨congrArg (Value.int .i64) (by unfold two; (repeat' split) <;> omega), Holds.to (by assumption)⟩
    · refine W.skip ?_
      refine hK3 _ _ _ ?_
      refine W.seq (fun K7 hK7 => ?_)
      refine W.seq (fun K8 hK8 => ?_)
      refine W.region ?_
      refine O.ex (Ex.move rfl) rfl ?_
      refine O.ex (Ex.eqlI rfl rfl) rfl ?_
      refine O.ex (Ex.move rfl) rfl ?_
      first | refine O.split_p (t := 17) rfl (fun h2 => ?_) (fun h2 => ?_) | refine O.split (t := 17) rfl (fun h2 => ?_) (fun h2 => ?_)
      · refine O.guard_f rfl rfl rfl rfl ?_
        refine O.guard_f rfl rfl rfl rfl ?_
        refine O.ex (Ex.pick_t rfl rfl) rfl ?_
        refine O.ex (Ex.move rfl) rfl ?_
        refine O.guard_f rfl rfl rfl rfl ?_
        refine O.guard_f rfl rfl rfl rfl ?_
        refine O.guard_f rfl rfl rfl rfl ?_
        refine O.guard_f rfl rfl rfl rfl ?_
        refine O.ex (Ex.pick_t rfl rfl) rfl ?_
        refine O.nil ?_
        refine hK8 _ _ _ ?_
        refine W.cond_t rfl ?_
        refine W.seq (fun K9 hK9 => ?_)
        refine W.region ?_
        refine O.ex (Ex.assign rfl) rfl ?_
        refine O.nil ?_
        refine hK9 _ _ _ ?_
        refine W.ret ?_
        try dsimp only [thenQ, blockQ, retQ]
        first | refine ⟨_, ⟨_, _, rfl, rfl, rfl⟩, ?_⟩ | (refine retD_mark ?_; intro w H; refine ⟨_, ⟨_, _, rfl, rfl, rfl⟩, ?_⟩) | (refine retD_mark2 ?_; intro w H; refine ⟨_, ⟨_, _, rfl, rfl, rfl⟩, ?_⟩)
        exact ⟨congrArg (Value.int .i64) (by unfold two; (repeat' split) <;> omega), Holds.to (by assumption)⟩
      · refine O.guard_t rfl rfl ?_
        refine O.ex (Ex.move rfl) rfl ?_
        refine O.guard_t rfl rfl ?_
        refine O.ex (Ex.eqlI rfl rfl) rfl ?_
        refine O.ex (Ex.pick_f rfl rfl) rfl ?_
        refine O.ex (Ex.move rfl) rfl ?_
        first | refine O.split_p (t := 21) rfl (fun h3 => ?_) (fun h3 => ?_) | refine O.split (t := 21) rfl (fun h3 => ?_) (fun h3 => ?_)
        · refine O.guard_f rfl rfl rfl rfl ?_
          refine O.guard_f rfl rfl rfl rfl ?_
          refine O.guard_f rfl rfl rfl rfl ?_
          refine O.guard_f rfl rfl rfl rfl ?_
          refine O.ex (Ex.pick_t rfl rfl) rfl ?_
          refine O.nil ?_
          refine hK8 _ _ _ ?_
          refine W.cond_t rfl ?_
          refine W.seq (fun K10 hK10 => ?_)
          refine W.region ?_
          refine O.ex (Ex.assign rfl) rfl ?_
          refine O.nil ?_
          refine hK10 _ _ _ ?_
          refine W.ret ?_
          try dsimp only [thenQ, blockQ, retQ]
          first | refine ⟨_, ⟨_, _, rfl, rfl, rfl⟩, ?_⟩ | (refine retD_mark ?_; intro w H; refine ⟨_, ⟨_, _, rfl, rfl, rfl⟩, ?_⟩) | (refine retD_mark2 ?_; intro w H; refine ⟨_, ⟨_, _, rfl, rfl, rfl⟩, ?_⟩)
          exact ⟨congrArg (Value.int .i64) (by unfold two; (repeat' split) <;> omega), Holds.to (by assumption)⟩
        · refine O.guard_t rfl rfl ?_
          refine O.ex (Ex.move rfl) rfl ?_
          refine O.guard_t rfl rfl ?_
          refine O.ex (Ex.move rfl) rfl ?_
          refine O.guard_t rfl rfl ?_
          refine O.ex (by first | exact Ex.subI rfl rfl | exact Ex.sub rfl rfl rfl) rfl ?_
          refine O.guard_t rfl rfl ?_
          refine O.ex (Ex.gtr rfl rfl) rfl ?_
          refine O.ex (Ex.pick_f rfl rfl) rfl ?_
          refine O.nil ?_
          refine hK8 _ _ _ ?_
          first | refine W.cond_p rfl (fun h4 => ?_) (fun h4 => ?_) | refine W.cond_b rfl (fun h4 => ?_) (fun h4 => ?_)
          · refine W.seq (fun K11 hK11 => ?_)
            refine W.region ?_
            refine O.ex (Ex.assign rfl) rfl ?_
            refine O.nil ?_
            refine hK11 _ _ _ ?_
            refine W.ret ?_
            try dsimp only [thenQ, blockQ, retQ]
            first | refine ⟨_, ⟨_, _, rfl, rfl, rfl⟩, ?_⟩ | (refine retD_mark ?_; intro w H; refine ⟨_, ⟨_, _, rfl, rfl, rfl⟩, ?_⟩) | (refine retD_mark2 ?_; intro w H; refine ⟨_, ⟨_, _, rfl, rfl, rfl⟩, ?_⟩)
            exact ⟨congrArg (Value.int .i64) (by unfold two; (repeat' split) <;> omega), Holds.to (by assumption)⟩
          · refine W.skip ?_
            refine hK7 _ _ _ ?_
            refine W.seq (fun K12 hK12 => ?_)
            refine W.region ?_
            refine O.ex (Ex.move rfl) rfl ?_
            refine O.ex (Ex.move rfl) rfl ?_
            refine O.ex (by first | exact Ex.addI rfl rfl | exact Ex.add rfl rfl rfl) rfl ?_
            refine O.ex (Ex.assign rfl) rfl ?_
            refine O.nil ?_
            refine hK12 _ _ _ ?_
            refine W.ret ?_
            try dsimp only [thenQ, blockQ, retQ]
            first | refine ⟨_, ⟨_, _, rfl, rfl, rfl⟩, ?_⟩ | (refine retD_mark ?_; intro w H; refine ⟨_, ⟨_, _, rfl, rfl, rfl⟩, ?_⟩) | (refine retD_mark2 ?_; intro w H; refine ⟨_, ⟨_, _, rfl, rfl, rfl⟩, ?_⟩)
            exact ⟨congrArg (Value.int .i64) (by unfold two; (repeat' split) <;> omega), Holds.to (by assumption)⟩
end Go.Proofs.Ytliofdfhimmjmaa
