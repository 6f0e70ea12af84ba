import Derived.Test.YtakmbbgnnbpkoaaLaw08c
--ARR
--INF
--DEEP
--LOADS loadRT loadRA loadRN loadRM
namespace Go.Proofs.Ytakmbbgnnbpkoaa
open Go.Rr Go Gr
set_option linter.unusedVariables false
theorem may_ct {w : World} {n most : Int} {L : List HProp} (H : Holds w L) : CT Try.prog 26 [.int .i64 n, .int .i64 most] w fun u w' => u = .bool (decide ((1 ≤ n ∧ n ≤ 24) ∧ (1 ≤ most ∧ most ≤ 64))) ∧ Holds w' L := by
  refine CT.enter (N := 19) Try.func26 rfl rfl rfl rfl ?_
  refine W.seq (fun K0 hK0 => ?_)
  refine W.region ?_
  refine O.ex (Ex.assign rfl) rfl ?_
  refine O.nil ?_
  refine hK0 _ _ _ ?_
  refine W.seq (fun K1 hK1 => ?_)
  refine W.region ?_
  refine O.ex (Ex.move rfl) rfl ?_
  refine O.ex (Ex.geq rfl rfl) rfl ?_
  refine O.ex (Ex.move rfl) rfl ?_
  first | refine O.split_p (t := 7) rfl (fun h0 => ?_) (fun h0 => ?_) | refine O.split (t := 7) rfl (fun h0 => ?_) (fun h0 => ?_)
  · refine O.guard_t rfl rfl ?_
    refine O.ex (Ex.move rfl) rfl ?_
    refine O.guard_t rfl rfl ?_
    refine O.ex (Ex.leq rfl rfl) rfl ?_
    refine O.ex (Ex.pick_t rfl rfl) rfl ?_
    refine O.ex (Ex.move rfl) rfl ?_
    first | refine O.split_p (t := 11) rfl (fun h1 => ?_) (fun h1 => ?_) | refine O.split (t := 11) rfl (fun h1 => ?_) (fun h1 => ?_)
    · refine O.guard_t rfl rfl ?_
      refine O.ex (Ex.move rfl) rfl ?_
      refine O.guard_t rfl rfl ?_
      refine O.ex (Ex.geq rfl rfl) rfl ?_
      refine O.ex (Ex.pick_t rfl rfl) rfl ?_
      refine O.ex (Ex.move rfl) rfl ?_
      first | refine O.split_p (t := 15) rfl (fun h2 => ?_) (fun h2 => ?_) | refine O.split (t := 15) rfl (fun h2 => ?_) (fun h2 => ?_)
      · refine O.guard_t rfl rfl ?_
        refine O.ex (Ex.move rfl) rfl ?_
        refine O.guard_t rfl rfl ?_
        refine O.ex (Ex.leq rfl rfl) rfl ?_
        refine O.ex (Ex.pick_t rfl rfl) rfl ?_
        refine O.ex (Ex.assign rfl) rfl ?_
        refine O.nil ?_
        refine hK1 _ _ _ ?_
        refine W.ret ?_
        try dsimp only [thenQ, blockQ, retQ]
        first | refine ⟨_, ⟨_, _, rfl, rfl, rfl⟩, ?_⟩ | (refine retD_mark ?_; intro w H; refine ⟨_, ⟨_, _, rfl, rfl, rfl⟩, ?_⟩) | (refine retD_mark2 ?_; intro w H; refine ⟨_, ⟨_, _, rfl, rfl, rfl⟩, ?_⟩)
        refine ⟨congrArg Value.bool ?_, Holds.to (by assumption)⟩
        first
        | exact decide_eq_decide.2 (by omega)
        | exact (decide_eq_false (by omega)).symm
      · refine O.guard_f rfl rfl rfl rfl ?_
        refine O.guard_f rfl rfl rfl rfl ?_
        refine O.ex (Ex.pick_f rfl rfl) rfl ?_
        refine O.ex (Ex.assign rfl) rfl ?_
        refine O.nil ?_
        refine hK1 _ _ _ ?_
        refine W.ret ?_
        try dsimp only [thenQ, blockQ, retQ]
        first | refine ⟨_, ⟨_, _, rfl, rfl, rfl⟩, ?_⟩ | (refine retD_mark ?_; intro w H; refine ⟨_, ⟨_, _, rfl, rfl, rfl⟩, ?_⟩) | (refine retD_mark2 ?_; intro w H; refine ⟨_, ⟨_, _, rfl, rfl, rfl⟩, ?_⟩)
        refine ⟨congrArg Value.bool ?_, Holds.to (by assumption)⟩
        first
        | exact decide_eq_decide.2 (by omega)
        | exact (decide_eq_false (by omega)).symm
    · refine O.guard_f rfl rfl rfl rfl ?_
      refine O.guard_f rfl rfl rfl rfl ?_
      refine O.ex (Ex.pick_f rfl rfl) rfl ?_
      refine O.ex (Ex.move rfl) rfl ?_
      refine O.guard_f rfl rfl rfl rfl ?_
      refine O.guard_f rfl rfl rfl rfl ?_
      refine O.ex (Ex.pick_f rfl rfl) rfl ?_
      refine O.ex (Ex.assign rfl) rfl ?_
      refine O.nil ?_
      refine hK1 _ _ _ ?_
      refine W.ret ?_
      try dsimp only [thenQ, blockQ, retQ]
      first | refine ⟨_, ⟨_, _, rfl, rfl, rfl⟩, ?_⟩ | (refine retD_mark ?_; intro w H; refine ⟨_, ⟨_, _, rfl, rfl, rfl⟩, ?_⟩) | (refine retD_mark2 ?_; intro w H; refine ⟨_, ⟨_, _, rfl, rfl, rfl⟩, ?_⟩)
      refine ⟨congrArg Value.bool ?_, Holds.to (by assumption)⟩
      first
      | exact decide_eq_decide.2 (by omega)
      | exact (decide_eq_false (by omega)).symm
  · refine O.guard_f rfl rfl rfl rfl ?_
    refine O.guard_f rfl rfl rfl rfl ?_
    refine O.ex (Ex.pick_f rfl rfl) rfl ?_
    refine O.ex (Ex.move rfl) rfl ?_
    refine O.guard_f rfl rfl rfl rfl ?_
    refine O.guard_f rfl rfl rfl rfl ?_
    refine O.ex (Ex.pick_f rfl rfl) rfl ?_
    refine O.ex (Ex.move rfl) rfl ?_
    refine O.guard_f rfl rfl rfl rfl ?_
    refine O.guard_f rfl rfl rfl rfl ?_
    refine O.ex (Ex.pick_f rfl rfl) rfl ?_
    refine O.ex (Ex.assign rfl) rfl ?_
    refine O.nil ?_
    refine hK1 _ _ _ ?_
    refine W.ret ?_
    try dsimp only [thenQ, blockQ, retQ]
    first | refine ⟨_, ⟨_, _, rfl, rfl, rfl⟩, ?_⟩ | (refine retD_mark ?_; intro w H; refine ⟨_, ⟨_, _, rfl, rfl, rfl⟩, ?_⟩) | (refine retD_mark2 ?_; intro w H; refine ⟨_, ⟨_, _, rfl, rfl, rfl⟩, ?_⟩)
    refine ⟨congrArg Value.bool ?_, Holds.to (by assumption)⟩
    first
    | exact decide_eq_decide.2 (by omega)
    | exact (decide_eq_false (by omega)).symm
set_option maxHeartbeats 2000000 in
theorem graphPlays_ct {w0 : World} {n most : Int} {lv : Value} {l : List Chg} (hx : SlIn w0 6 Chg.enc lv l) (hl : l.length ≤ 9223372036854775807) :
    CT Try.prog 5 [.int .i64 n, .int .i64 most, lv] w0 fun x w' => x = .bool true ∧ RowKit.Below w0.heap.size w0 w' := by
  have H := Holds.base_refl w0
  refine CT.enter (N := 70) Try.func5 rfl rfl rfl rfl ?_
  refine W.seq (fun K0 hK0 => ?_)
  refine W.region ?_
  refine O.ex (Ex.assign rfl) rfl ?_
  refine O.nil ?_
  refine hK0 _ _ _ ?_
  refine W.seq (fun K1 hK1 => ?_)
  refine W.seq (fun K2 hK2 => ?_)
  refine W.region ?_
  refine O.callF Try.call17 rfl rfl (CT.mono (awake08_ct (Holds.to (by assumption))) ?_)
  rintro _ w ⟨rfl, H⟩
  refine O.ex (by first | exact Ex.notD rfl | exact Ex.not rfl) rfl ?_
  refine O.nil ?_
  refine hK2 _ _ _ ?_
  refine W.known_f rfl (by first | exact decide_eq_true hno | exact decide_eq_false (fun hh => hh hyes) | exact decide_eq_false (fun hh => hh rfl) | rfl | decide) ?_
  refine W.skip ?_
  refine hK1 _ _ _ ?_
  refine W.seq (fun K3 hK3 => ?_)
  refine W.region ?_
  refine O.ex (Ex.move rfl) rfl ?_
  refine O.ex (Ex.move rfl) rfl ?_
  refine O.callF Try.call25 rfl rfl (CT.mono (gnew_ct (n := n) (most := most) (Holds.to (by assumption))) ?_)
  rintro _ w hh
  rcases hh with ⟨hno, rfl, H⟩ | ⟨hyes, g, rfl, H⟩
  · refine O.ex (Ex.move rfl) rfl ?_
    refine O.ex (Ex.extract rfl rfl) rfl ?_
    refine O.ex (Ex.extract rfl rfl) rfl ?_
    refine O.ex (Ex.assign rfl) rfl ?_
    refine O.ex (Ex.assign rfl) rfl ?_
    refine O.nil ?_
    refine hK3 _ _ _ ?_
    refine W.seq (fun K4 hK4 => ?_)
    refine W.seq (fun K5 hK5 => ?_)
    refine W.region ?_
    refine O.ex (Ex.move rfl) rfl ?_
    refine O.ex (Ex.move rfl) rfl ?_
    refine O.callF Try.call26 rfl rfl (CT.mono (may_ct (Holds.to (by assumption))) ?_)
    rintro _ w ⟨rfl, H⟩
    refine O.ex (by first | exact Ex.notD rfl | exact Ex.not rfl) rfl ?_
    refine O.nil ?_
    refine hK5 _ _ _ ?_
    refine W.known_t rfl (by first | exact decide_eq_true hno | exact decide_eq_false (fun hh => hh hyes) | exact decide_eq_false (fun hh => hh rfl) | rfl | decide) ?_
    refine W.seq (fun K6 hK6 => ?_)
    refine W.region ?_
    refine O.ex (Ex.move rfl) rfl ?_
    refine O.ex (Ex.nilEq Try.runUnderlying24 rfl rfl) rfl ?_
    refine O.ex (Ex.move rfl) rfl ?_
    refine O.known (t := 25) (c := true) rfl (by first | exact decide_eq_true hno | exact decide_eq_false (fun hh => hh hyes) | exact decide_eq_false (fun hh => hh rfl) | rfl | decide) ?_
    refine O.guard_t rfl rfl ?_
    refine O.ex (Ex.move rfl) rfl ?_
    refine O.guard_t rfl rfl ?_
    refine O.ex (Ex.eqlI rfl rfl) rfl ?_
    refine O.ex (Ex.pick_t rfl rfl) rfl ?_
    refine O.ex (Ex.assign rfl) rfl ?_
    refine O.nil ?_
    refine hK6 _ _ _ ?_
    refine W.ret ?_
    try dsimp only [thenQ, blockQ, retQ]
    first | refine ⟨_, ⟨_, _, rfl, rfl, rfl⟩, ?_⟩ | (refine retD_mark ?_; intro w H; refine ⟨_, ⟨_, _, rfl, rfl, rfl⟩, ?_⟩) | (refine retD_mark2 ?_; intro w H; refine ⟨_, ⟨_, _, rfl, rfl, rfl⟩, ?_⟩)
    exact ⟨rfl, Holds.base_below (L := []) (Holds.to (by assumption))⟩
  · refine O.ex (Ex.move rfl) rfl ?_
    refine O.ex (Ex.extract rfl rfl) rfl ?_
    refine O.ex (Ex.extract rfl rfl) rfl ?_
    refine O.ex (Ex.assign rfl) rfl ?_
    refine O.ex (Ex.assign rfl) rfl ?_
    refine O.nil ?_
    refine hK3 _ _ _ ?_
    refine W.seq (fun K7 hK7 => ?_)
    refine W.seq (fun K8 hK8 => ?_)
    refine W.region ?_
    refine O.ex (Ex.move rfl) rfl ?_
    refine O.ex (Ex.move rfl) rfl ?_
    refine O.callF Try.call26 rfl rfl (CT.mono (may_ct (Holds.to (by assumption))) ?_)
    rintro _ w ⟨rfl, H⟩
    refine O.ex (by first | exact Ex.notD rfl | exact Ex.not rfl) rfl ?_
    refine O.nil ?_
    refine hK8 _ _ _ ?_
    refine W.known_f rfl (by first | exact decide_eq_true hno | exact decide_eq_false (fun hh => hh hyes) | exact decide_eq_false (fun hh => hh rfl) | rfl | decide) ?_
    refine W.skip ?_
    refine hK7 _ _ _ ?_
    refine W.seq (fun K9 hK9 => ?_)
    refine W.seq (fun K10 hK10 => ?_)
    refine W.region ?_
    refine O.ex (Ex.move rfl) rfl ?_
    refine O.ex (Ex.nilEq Try.runUnderlying24 rfl rfl) rfl ?_
    refine O.ex (Ex.move rfl) rfl ?_
    refine O.known (t := 31) (c := false) rfl (by first | exact decide_eq_true hno | exact decide_eq_false (fun hh => hh hyes) | exact decide_eq_false (fun hh => hh rfl) | rfl | decide) ?_
    refine O.guard_t rfl rfl ?_
    refine O.ex (Ex.move rfl) rfl ?_
    refine O.guard_t rfl rfl ?_
    refine O.ex (Ex.neqI rfl rfl) rfl ?_
    refine O.ex (Ex.pick_f rfl rfl) rfl ?_
    refine O.nil ?_
    refine hK10 _ _ _ ?_
    refine W.known_f rfl (by first | exact decide_eq_true hno | exact decide_eq_false (fun hh => hh hyes) | exact decide_eq_false (fun hh => hh rfl) | rfl | decide) ?_
    refine W.skip ?_
    refine hK9 _ _ _ ?_
    refine W.seq (fun K11 hK11 => ?_)
    refine W.region ?_
    refine O.ex (Ex.move rfl) rfl ?_
    refine O.ex (Ex.move rfl) rfl ?_
    refine O.callF Try.call27 rfl rfl (CT.mono (rnew_ct (Holds.to (by assumption))) ?_)
    rintro _ w ⟨r, rfl, H⟩
    refine O.ex (Ex.assign rfl) rfl ?_
    refine O.nil ?_
    refine hK11 _ _ _ ?_
    refine W.seq (fun K12 hK12 => ?_)
    refine W.seq (fun K13 hK13 => ?_)
    refine W.region ?_
    refine O.ex (Ex.assign rfl) rfl ?_
    refine O.nil ?_
    refine hK13 _ _ _ ?_
    refine W.block ?_
    have ok0 : GOk n most noS := ok_none hyes.1.1 hyes.1.2 hyes.2.1 hyes.2.2
    refine W.loop (σ := Nat) (fun i => [(2, lv), (7, .pointer (some ⟨g, 0, none⟩)), (9, .pointer (some ⟨r, 0, none⟩)), (10, .int .i64 (i : Int))]) (fun i ds w => ds = [] ∧ i ≤ l.length ∧ i ≤ 150 ∧ Holds w (Gh g n most (doAll n most noS (l.take i)) :: Rg r n most (doAll n most noS (l.take i)) :: base w0 :: [])) (fun i => l.length - i) 0 ⟨rfl, rfl, rfl, rfl, trivial⟩ ⟨rfl, by omega, by omega, Holds.to (by assumption)⟩ ?_
    clear H
    rintro i _ w ⟨rfl, hi, hi4, H⟩
    have hg := ok_all (l.take i) noS ok0
    refine W.seq (fun K14 hK14 => ?_)
    refine W.seq (fun K15 hK15 => ?_)
    refine W.region ?_
    refine O.ex (Ex.move rfl) rfl ?_
    refine O.ex (Ex.move rfl) rfl ?_
    refine O.ex (by first | exact Ex.lenN Try.runUnderlying22 rfl | exact Ex.lenIn Try.runUnderlying22 rfl | exact Ex.lenL Try.runUnderlying22 rfl | exact Ex.len rfl Try.runUnderlying22 rfl) rfl ?_
    refine O.ex (Ex.lss rfl rfl) rfl ?_
    refine O.ex (Ex.move rfl) rfl ?_
    first | refine O.split_p (t := 42) rfl (fun h1 => ?_) (fun h1 => ?_) | refine O.split (t := 42) rfl (fun h1 => ?_) (fun h1 => ?_)
    · refine O.guard_t rfl rfl ?_
      refine O.ex (Ex.move rfl) rfl ?_
      refine O.guard_t rfl rfl ?_
      refine O.ex (Ex.lss rfl rfl) rfl ?_
      refine O.ex (Ex.pick_t rfl rfl) rfl ?_
      refine O.nil ?_
      refine hK15 _ _ _ ?_
      first | refine W.cond_p rfl (fun hlt => ?_) (fun hge => ?_) | refine W.cond_b rfl (fun hlt => ?_) (fun hge => ?_)
      · refine W.skip ?_
        refine hK14 _ _ _ ?_
        refine W.seq (fun K16 hK16 => ?_)
        refine W.block ?_
        refine W.seq (fun K17 hK17 => ?_)
        have hi0 : (0 : Int) ≤ (i : Int) := by omega
        have hi1 : (i : Int) < l.length := h1
        have hil : i < l.length := by omega
        have e1 : doS n most (doAll n most noS (l.take i)) (l.getD i default) = doAll n most noS (l.take (i + 1)) := by rw [take_getCh l hil, doAll_snoc]
        have hg1 := ok_all (l.take (i + 1)) noS ok0
        refine W.drawTo (base w0 :: []) (.take 0 (.take 1 (.take 2 (.take 3 (.take 4 (.take 6 (.take 7 (.take 8 (.take 9 (.take 10 (.one 5 (.one 11 (.take 12 (.take 13 (.take 14 (.take 15 (.one 16 (.take 17 (.take 18 .nil))))))))))))))))))) (mixed) (fun _ _ _ _ h => h) (by assumption) PP.auto (by decide +kernel) (fun w H => ?_)
        refine OQ.ex rfl (fun w H => (Ex.move rfl)) rfl ?_
        refine OQ.ex rfl (fun w H => (Ex.move rfl)) rfl ?_
        refine OQ.ex rfl (fun w H => (Ex.move rfl)) rfl ?_
        refine OQ.ex rfl (fun w H => (by first | exact Ex.idxIn Try.runUnderlying22 Try.sizeOf47 rfl rfl | exact Ex.idxN Try.runUnderlying22 Try.sizeOf47 rfl rfl | exact Ex.idxSN Try.runUnderlying22 Try.sizeOf47 rfl rfl | exact Ex.idx Try.runUnderlying22 Try.sizeOf47 rfl rfl (by omega) (by omega))) rfl ?_
        refine OQ.ex rfl (fun w H => (by first | exact Ex.loadAggP Try.isAgg47 Try.sizeOf47 rfl | exact Ex.loadAggN Try.isAgg47 Try.sizeOf47 rfl | exact Ex.loadIn Try.isAgg47 Try.sizeOf47 rfl (Holds.to (by assumption)))) rfl ?_
        refine OQ.ex rfl (fun w H => (Ex.move rfl)) rfl ?_
        refine OQ.ex rfl (fun w H => (Ex.move rfl)) rfl ?_
        refine OQ.ex rfl (fun w H => (Ex.move rfl)) rfl ?_
        refine OQ.ex rfl (fun w H => (by first | exact Ex.idxIn Try.runUnderlying22 Try.sizeOf47 rfl rfl | exact Ex.idxN Try.runUnderlying22 Try.sizeOf47 rfl rfl | exact Ex.idxSN Try.runUnderlying22 Try.sizeOf47 rfl rfl | exact Ex.idx Try.runUnderlying22 Try.sizeOf47 rfl rfl (by omega) (by omega))) rfl ?_
        refine OQ.ex rfl (fun w H => (by first | exact Ex.loadAggP Try.isAgg47 Try.sizeOf47 rfl | exact Ex.loadAggN Try.isAgg47 Try.sizeOf47 rfl | exact Ex.loadIn Try.isAgg47 Try.sizeOf47 rfl (Holds.to (by assumption)))) rfl ?_
        refine OQ.step rfl ?_
        refine O.callF Try.call28 rfl rfl (CT.mono (do_ct (c := l.getD i default) hg (Holds.to (by assumption))) ?_)
        rintro _ w ⟨rfl, H⟩
        refine O.thenNil ⟨(by first | exact Holds.to (by assumption) | assumption), ?_⟩
        refine OQ.step rfl ?_
        refine O.callF Try.call29 rfl rfl (CT.mono (doRef_ct (c := l.getD i default) (Holds.to (by assumption))) ?_)
        rintro _ w ⟨rfl, H⟩
        rw [e1] at H
        refine O.thenNil ⟨(by first | exact Holds.to (by assumption) | assumption), ?_⟩
        refine OQ.ex rfl (fun w H => (Ex.neqI rfl rfl)) rfl ?_
        refine OQ.ex rfl (fun w H => (Ex.move rfl)) rfl ?_
        refine OQ.known (t := 61) (c := false) rfl (by first | exact decide_eq_true hno | exact decide_eq_false (fun hh => hh hyes) | exact decide_eq_false (fun hh => hh rfl) | rfl | decide) ?_
        refine OQ.exT rfl rfl rfl (fun w H => (Ex.move rfl)) rfl ?_
        refine OQ.exT rfl rfl rfl (fun w H => (Ex.move rfl)) rfl ?_
        refine OQ.step rfl ?_
        refine O.guard_t rfl rfl ?_
        refine O.callF Try.call30 rfl rfl (CT.mono (same08_ct hg1 (Holds.to (by assumption))) ?_)
        rintro _ w ⟨rfl, H⟩
        refine O.thenNil ⟨(by first | exact Holds.to (by assumption) | assumption), ?_⟩
        refine OQ.exT rfl rfl rfl (fun w H => (by first | exact Ex.notD rfl | exact Ex.not rfl)) rfl ?_
        refine OQ.ex rfl (fun w H => (Ex.pick_f rfl rfl)) rfl ?_
        refine OQ.done ?_
        refine hK17 _ _ _ ?_
        refine W.known_f rfl (by first | exact decide_eq_true hno | exact decide_eq_false (fun hh => hh hyes) | exact decide_eq_false (fun hh => hh rfl) | rfl | decide) ?_
        refine W.skip ?_
        refine hK16 _ _ _ ?_
        refine W.region ?_
        refine O.ex (Ex.move rfl) rfl ?_
        refine O.ex (by first | exact Ex.addI rfl rfl | exact Ex.add rfl rfl rfl) rfl ?_
        refine O.ex (Ex.assign rfl) rfl ?_
        refine O.nil ?_
        exact ⟨i + 1, ⟨rfl, rfl, rfl, rfl, trivial⟩, ⟨rfl, by omega, by omega, Holds.to (by assumption)⟩, by omega⟩
      · refine W.exit ?_
        refine hK12 _ _ _ ?_
        refine W.seq (fun K18 hK18 => ?_)
        refine W.region ?_
        refine O.ex (Ex.move rfl) rfl ?_
        refine O.ex (Ex.move rfl) rfl ?_
        refine O.callF Try.call30 rfl rfl (CT.mono (same08_ct hg (Holds.to (by assumption))) ?_)
        rintro _ w ⟨rfl, H⟩
        refine O.ex (Ex.assign rfl) rfl ?_
        refine O.nil ?_
        refine hK18 _ _ _ ?_
        refine W.ret ?_
        try dsimp only [thenQ, blockQ, retQ]
        first | refine ⟨_, ⟨_, _, rfl, rfl, rfl⟩, ?_⟩ | (refine retD_mark ?_; intro w H; refine ⟨_, ⟨_, _, rfl, rfl, rfl⟩, ?_⟩) | (refine retD_mark2 ?_; intro w H; refine ⟨_, ⟨_, _, rfl, rfl, rfl⟩, ?_⟩)
        exact ⟨rfl, Holds.base_below (L := []) (Holds.to (by assumption))⟩
    · refine O.guard_f rfl rfl rfl rfl ?_
      refine O.guard_f rfl rfl rfl rfl ?_
      refine O.ex (Ex.pick_f rfl rfl) rfl ?_
      refine O.nil ?_
      refine hK15 _ _ _ ?_
      refine W.cond_f rfl ?_
      refine W.exit ?_
      refine hK12 _ _ _ ?_
      refine W.seq (fun K19 hK19 => ?_)
      refine W.region ?_
      refine O.ex (Ex.move rfl) rfl ?_
      refine O.ex (Ex.move rfl) rfl ?_
      refine O.callF Try.call30 rfl rfl (CT.mono (same08_ct hg (Holds.to (by assumption))) ?_)
      rintro _ w ⟨rfl, H⟩
      refine O.ex (Ex.assign rfl) rfl ?_
      refine O.nil ?_
      refine hK19 _ _ _ ?_
      refine W.ret ?_
      try dsimp only [thenQ, blockQ, retQ]
      first | refine ⟨_, ⟨_, _, rfl, rfl, rfl⟩, ?_⟩ | (refine retD_mark ?_; intro w H; refine ⟨_, ⟨_, _, rfl, rfl, rfl⟩, ?_⟩) | (refine retD_mark2 ?_; intro w H; refine ⟨_, ⟨_, _, rfl, rfl, rfl⟩, ?_⟩)
      exact ⟨rfl, Holds.base_below (L := []) (Holds.to (by assumption))⟩
theorem graphPlays_row {w0 : World} {n most : Int} {lv : Value} {l : List Chg} (hn : (Lit.int .i64 n).wf = true) (hm : (Lit.int .i64 most).wf = true) (hx : SlIn w0 6 Chg.enc lv l) (hg : ∀ x ∈ l, x.ok) (hl : l.length ≤ maxLen) :
    CT Try.prog 5 [.int .i64 n, .int .i64 most, lv] w0 fun x w' => x = .bool true ∧ RowKit.Below w0.heap.size w0 w' :=
  graphPlays_ct hx (by unfold maxLen at hl; omega)
end Go.Proofs.Ytakmbbgnnbpkoaa
