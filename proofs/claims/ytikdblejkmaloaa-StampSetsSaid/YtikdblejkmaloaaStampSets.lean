import Derived.Test.YtikdblejkmaloaaStampPlays
namespace Go.Proofs.Ytikdblejkmaloaa
open Go.Rr Go
set_option linter.unusedVariables false
def encP (p : Int × Int) : List Value := [.int .i64 p.1, .int .i64 p.2]
def RowP (r : Nat) (R : RowM (Int × Int)) : HProp := hex fun vv => hex fun wv => star [pt r (.cells #[vv, wv, .int .u8 R.now, .int .i64 R.n] 87 (0, 0)), arrN 41 2 encP vv R.v, arr 5 (Value.int .u8) wv R.wh]
theorem rowP_open {w : World} {r : Nat} {R : RowM (Int × Int)} {L : List HProp} : Holds w (RowP r R :: L) ↔ ∃ vv wv, Holds w (pt r (.cells #[vv, wv, .int .u8 R.now, .int .i64 R.n] 87 (0, 0)) :: arrN 41 2 encP vv R.v :: arr 5 (Value.int .u8) wv R.wh :: L) := by
  unfold RowP
  simp only [Holds.hex, Holds.star, List.cons_append, List.nil_append]
theorem thereP_ct {w : World} {r : Nat} {vv wv a b : Value} {v : List (Int × Int)} {i : Int} {L : List HProp} (H : Holds w (pt r (.cells #[vv, wv, a, b] 87 (0, 0)) :: arrN 41 2 encP vv v :: L)) :
    CT Try.prog 48 [.pointer (some ⟨r, 0, none⟩), .int .i64 i] w fun u w' => u = .bool (decide (0 ≤ i ∧ i < v.length)) ∧ Holds w' (pt r (.cells #[vv, wv, a, b] 87 (0, 0)) :: arrN 41 2 encP vv v :: L) := by
  refine CT.enter (N := 16) Try.func48 rfl rfl rfl rfl ?_
  refine W.seq (fun K0 hK0 => ?_)
  refine W.region ?_
  refine O.ex (Ex.assign rfl) rfl ?_
  refine O.nil ?_
  refine hK0 _ _ _ ?_
  refine W.seq (fun K1 hK1 => ?_)
  refine W.region ?_
  refine O.ex (Ex.move rfl) rfl ?_
  refine O.ex (Ex.geq rfl rfl) rfl ?_
  refine O.ex (Ex.move rfl) rfl ?_
  first | refine O.split_p (t := 7) rfl (fun h7 => ?_) (fun h7 => ?_) | refine O.split (t := 7) rfl (fun h7 => ?_) (fun h7 => ?_)
  · refine O.guard_t rfl rfl ?_
    refine O.ex (Ex.move rfl) rfl ?_
    refine O.guard_t rfl rfl ?_
    refine O.ex (Ex.move rfl) rfl ?_
    refine O.guard_t rfl rfl ?_
    refine O.ex (by first | exact Ex.nilPtr rfl | exact Ex.nilFunc rfl | exact Ex.nilYield rfl) rfl ?_
    refine O.guard_t rfl rfl ?_
    refine O.ex (by first | exact Ex.field0 fld87_0 rfl | exact Ex.field fld87_0 rfl | exact Ex.fieldS fld87_0 rfl) rfl ?_
    refine O.guard_t rfl rfl ?_
    refine O.ex (by first | exact Ex.loadP Try.isAgg85 rfl | exact Ex.loadR Try.isAgg85 rfl | exact Ex.loadIn1 Try.isAgg85 rfl (Holds.to (by assumption))) rfl ?_
    refine O.guard_t rfl rfl ?_
    refine O.ex (by first | exact Ex.lenN Try.runUnderlying85 rfl | exact Ex.lenIn Try.runUnderlying85 rfl | exact Ex.lenL Try.runUnderlying85 rfl | exact Ex.len rfl Try.runUnderlying85 rfl) rfl ?_
    refine O.guard_t rfl rfl ?_
    refine O.ex (Ex.lss rfl rfl) rfl ?_
    refine O.ex (Ex.pick_t rfl rfl) rfl ?_
    refine O.ex (Ex.assign rfl) rfl ?_
    refine O.nil ?_
    refine hK1 _ _ _ ?_
    refine W.ret ?_
    try dsimp only [thenQ, blockQ]
    refine ⟨_, ⟨_, _, rfl, rfl, rfl⟩, ?_⟩
    exact ⟨by simp [*, oneOf], H⟩
  · refine O.guard_f rfl rfl rfl rfl ?_
    refine O.guard_f rfl rfl rfl rfl ?_
    refine O.guard_f rfl rfl rfl rfl ?_
    refine O.guard_f rfl rfl rfl rfl ?_
    refine O.guard_f rfl rfl rfl rfl ?_
    refine O.guard_f rfl rfl rfl rfl ?_
    refine O.guard_f rfl rfl rfl rfl ?_
    refine O.ex (Ex.pick_f rfl rfl) rfl ?_
    refine O.ex (Ex.assign rfl) rfl ?_
    refine O.nil ?_
    refine hK1 _ _ _ ?_
    refine W.ret ?_
    try dsimp only [thenQ, blockQ]
    refine ⟨_, ⟨_, _, rfl, rfl, rfl⟩, ?_⟩
    exact ⟨by simp [*, oneOf], H⟩

theorem isP_ct {w : World} {r : Nat} {vv wv b : Value} {now : Int} {wh : List Int} {i : Int} {L : List HProp} (H : Holds w (pt r (.cells #[vv, wv, .int .u8 now, b] 87 (0, 0)) :: arr 5 (Value.int .u8) wv wh :: L)) (h0 : 0 ≤ i) (h1 : i < wh.length) :
    CT Try.prog 49 [.pointer (some ⟨r, 0, none⟩), .int .i64 i] w fun u w' => u = .bool (decide (wh.getD i.toNat 0 = now)) ∧ Holds w' (pt r (.cells #[vv, wv, .int .u8 now, b] 87 (0, 0)) :: arr 5 (Value.int .u8) wv wh :: L) := by
  refine CT.enter (N := 17) Try.func49 rfl rfl rfl rfl ?_
  refine W.seq (fun K0 hK0 => ?_)
  refine W.region ?_
  refine O.ex (Ex.assign rfl) rfl ?_
  refine O.nil ?_
  refine hK0 _ _ _ ?_
  refine W.seq (fun K1 hK1 => ?_)
  refine W.drawTo _ (.take 0 (.take 1 (.take 2 (.take 3 (.take 4 (.take 5 (.take 6 (.take 7 (.take 8 (.take 9 (.take 10 (.take 11 (.take 12 .nil))))))))))))) (mixed) (fun _ _ _ _ h => h) (by assumption) (PP.refl _) (by decide +kernel) (fun w H => ?_)
  refine OQ.ex rfl (fun w H => (Ex.move rfl)) rfl ?_
  refine OQ.ex rfl (fun w H => (by first | exact Ex.nilPtr rfl | exact Ex.nilFunc rfl | exact Ex.nilYield rfl)) rfl ?_
  refine OQ.ex rfl (fun w H => (by first | exact Ex.field0 fld87_1 rfl | exact Ex.field fld87_1 rfl | exact Ex.fieldS fld87_1 rfl)) rfl ?_
  refine OQ.ex rfl (fun w H => (by first | exact Ex.loadP Try.isAgg80 rfl | exact Ex.loadR Try.isAgg80 rfl | exact Ex.loadIn1 Try.isAgg80 rfl (Holds.to (by assumption)))) rfl ?_
  refine OQ.ex rfl (fun w H => (Ex.move rfl)) rfl ?_
  refine OQ.ex rfl (fun w H => (by first | exact Ex.idxR Try.runUnderlying80 Try.sizeOf5 rfl rfl | exact Ex.idxIn Try.runUnderlying80 Try.sizeOf5 rfl rfl | exact Ex.idxS Try.runUnderlying80 Try.sizeOf5 rfl rfl | exact Ex.idx Try.runUnderlying80 Try.sizeOf5 rfl rfl (by omega) (by omega))) rfl ?_
  refine OQ.ex rfl (fun w H => (by first | exact Ex.loadP Try.isAgg5 rfl | exact Ex.loadR Try.isAgg5 rfl | exact Ex.loadIn1 Try.isAgg5 rfl (Holds.to (by assumption)))) rfl ?_
  refine OQ.ex rfl (fun w H => (Ex.move rfl)) rfl ?_
  refine OQ.ex rfl (fun w H => (by first | exact Ex.nilPtr rfl | exact Ex.nilFunc rfl | exact Ex.nilYield rfl)) rfl ?_
  refine OQ.ex rfl (fun w H => (by first | exact Ex.field0 fld87_2 rfl | exact Ex.field fld87_2 rfl | exact Ex.fieldS fld87_2 rfl)) rfl ?_
  refine OQ.ex rfl (fun w H => (by first | exact Ex.loadP Try.isAgg5 rfl | exact Ex.loadR Try.isAgg5 rfl | exact Ex.loadIn1 Try.isAgg5 rfl (Holds.to (by assumption)))) rfl ?_
  refine OQ.ex rfl (fun w H => (Ex.eqlI rfl rfl)) rfl ?_
  refine OQ.ex rfl (fun w H => (Ex.assign rfl)) rfl ?_
  refine OQ.done ?_
  refine hK1 _ _ _ ?_
  refine W.ret ?_
  try dsimp only [thenQ, blockQ]
  refine ⟨_, ⟨_, _, rfl, rfl, rfl⟩, ?_⟩
  exact ⟨rfl, by first | assumption | exact Holds.to (by assumption)⟩

theorem setP_ct {w : World} {r : Nat} {R : RowM (Int × Int)} {i : Int} {x y : Int} {L : List HProp} (H : Holds w (RowP r R :: L)) (hl : R.wh.length = R.v.length) (hn0 : 0 ≤ R.n) (hn1 : R.n ≤ 100) :
    CT Try.prog 20 [.pointer (some ⟨r, 0, none⟩), .int .i64 i, .agg #[.int .i64 x, .int .i64 y]] w fun u w' => u = .int .i64 (if 0 ≤ i ∧ i < R.v.length then 0 else 1) ∧ Holds w' (RowP r (R.set i (x, y)) :: L) := by
  obtain ⟨vv, wv, H⟩ := rowP_open.1 H
  refine CT.enter (N := 39) Try.func20 rfl rfl rfl rfl ?_
  refine W.seq (fun K0 hK0 => ?_)
  refine W.region ?_
  refine O.boxP rfl (fun b5 w H => ?_)
  refine O.ex (Ex.assign rfl) rfl ?_
  refine O.nil ?_
  refine hK0 _ _ _ ?_
  refine W.seq (fun K1 hK1 => ?_)
  refine W.seq (fun K2 hK2 => ?_)
  refine W.region ?_
  refine O.ex (Ex.move rfl) rfl ?_
  refine O.ex (Ex.move rfl) rfl ?_
  refine O.callF Try.call48 rfl rfl (CT.mono (thereP_ct (Holds.to (by assumption))) ?_)
  rintro _ w ⟨rfl, H⟩
  refine O.ex (by first | exact Ex.notD rfl | exact Ex.not rfl) rfl ?_
  refine O.nil ?_
  refine hK2 _ _ _ ?_
  first | refine W.cond_p rfl (fun hno => ?_) (fun hyes => ?_) | refine W.cond_b rfl (fun hno => ?_) (fun hyes => ?_)
  · refine W.seq (fun K3 hK3 => ?_)
    refine W.region ?_
    refine O.ex (Ex.assign rfl) rfl ?_
    refine O.nil ?_
    refine hK3 _ _ _ ?_
    refine W.ret ?_
    try dsimp only [thenQ, blockQ]
    refine ⟨_, ⟨_, _, rfl, rfl, rfl⟩, ?_⟩
    first
    | (refine ⟨by simp only [oneOf]; rw [if_neg (by omega)], ?_⟩
       rw [show R.set i (x, y) = R from if_neg (by omega)]
       exact rowP_open.2 ⟨vv, wv, Holds.to (by assumption)⟩)
    | (refine ⟨by simp only [oneOf]; rw [if_pos (by omega)], ?_⟩
       rw [show R.set i (x, y) = { v := R.v.set i.toNat (x, y), wh := R.wh.set i.toNat R.now, now := R.now, n := R.n + 1 } from by unfold RowM.set; rw [if_pos (by omega), if_neg (by unfold RowM.has; omega)]]
       exact rowP_open.2 ⟨vv, wv, Holds.to (by assumption)⟩)
    | (refine ⟨by simp only [oneOf]; rw [if_pos (by omega)], ?_⟩
       rw [show R.set i (x, y) = { v := R.v.set i.toNat (x, y), wh := R.wh.set i.toNat R.now, now := R.now, n := R.n } from by unfold RowM.set; rw [if_pos (by omega), if_pos (by unfold RowM.has; omega)]]
       exact rowP_open.2 ⟨vv, wv, Holds.to (by assumption)⟩)
  · refine W.skip ?_
    refine hK1 _ _ _ ?_
    refine W.seq (fun K4 hK4 => ?_)
    refine W.seq (fun K5 hK5 => ?_)
    refine W.region ?_
    refine O.ex (Ex.move rfl) rfl ?_
    refine O.ex (Ex.move rfl) rfl ?_
    refine O.callF Try.call49 rfl rfl (CT.mono (isP_ct (Holds.to (by assumption)) (by omega) (by omega)) ?_)
    rintro _ w ⟨rfl, H⟩
    refine O.ex (by first | exact Ex.notD rfl | exact Ex.not rfl) rfl ?_
    refine O.nil ?_
    refine hK5 _ _ _ ?_
    first | refine W.cond_p rfl (fun hnew => ?_) (fun hold => ?_) | refine W.cond_b rfl (fun hnew => ?_) (fun hold => ?_)
    · refine W.region ?_
      refine O.ex (Ex.move rfl) rfl ?_
      refine O.ex (by first | exact Ex.nilPtr rfl | exact Ex.nilFunc rfl | exact Ex.nilYield rfl) rfl ?_
      refine O.ex (by first | exact Ex.field0 fld87_3 rfl | exact Ex.field fld87_3 rfl | exact Ex.fieldS fld87_3 rfl) rfl ?_
      refine O.ex (by first | exact Ex.loadP Try.isAgg3 rfl | exact Ex.loadR Try.isAgg3 rfl | exact Ex.loadIn1 Try.isAgg3 rfl (Holds.to (by assumption))) rfl ?_
      refine O.ex (by first | exact Ex.addI rfl rfl | exact Ex.add rfl rfl rfl) rfl ?_
      refine O.ex (by first | exact Ex.nilPtr rfl | exact Ex.nilFunc rfl | exact Ex.nilYield rfl) rfl ?_
      refine O.ex (by first | exact Ex.field0 fld87_3 rfl | exact Ex.field fld87_3 rfl | exact Ex.fieldS fld87_3 rfl) rfl ?_
      first | refine O.storeP Try.sizeOf3 rfl rfl (fun w H => ?_) | refine O.storeR Try.sizeOf3 rfl rfl (fun w H => ?_)
      refine O.nil ?_
      refine hK4 _ _ _ ?_
      refine W.seq (fun K6 hK6 => ?_)
      have s1 := arrN_sl (sz := 2) (e := encP) (v := vv) (xs := R.v) (Holds.to (by assumption)) (by omega)
      have s2 := arr_sl (e := Value.int .u8) (v := wv) (xs := R.wh) (Holds.to (by assumption)) (by omega)
      refine W.drawTo (pt r _ :: pt b5 _ :: []) (.take 0 (.take 1 (.take 2 (.take 3 (.take 4 (.take 5 (.take 6 (.take 7 (.take 8 (.take 9 (.take 10 (.take 11 (.take 12 (.take 13 (.take 14 (.take 15 (.one 16 (.take 17 (.one 18 .nil))))))))))))))))))) (mixed) (fun _ _ _ _ h => h) (by assumption) PP.auto (by decide +kernel) (fun w H => ?_)
      refine OQ.ex rfl (fun w H => (Ex.move rfl)) rfl ?_
      refine OQ.ex rfl (fun w H => (by first | exact Ex.nilPtr rfl | exact Ex.nilFunc rfl | exact Ex.nilYield rfl)) rfl ?_
      refine OQ.ex rfl (fun w H => (by first | exact Ex.field0 fld87_0 rfl | exact Ex.field fld87_0 rfl | exact Ex.fieldS fld87_0 rfl)) rfl ?_
      refine OQ.ex rfl (fun w H => (by first | exact Ex.loadP Try.isAgg85 rfl | exact Ex.loadR Try.isAgg85 rfl | exact Ex.loadIn1 Try.isAgg85 rfl (Holds.to (by assumption)))) rfl ?_
      refine OQ.ex rfl (fun w H => (Ex.move rfl)) rfl ?_
      refine OQ.ex rfl (fun w H => (Ex.move rfl)) rfl ?_
      refine OQ.ex rfl (fun w H => (by first | exact Ex.nilPtr rfl | exact Ex.nilFunc rfl | exact Ex.nilYield rfl)) rfl ?_
      refine OQ.ex rfl (fun w H => (by first | exact Ex.field0 fld87_1 rfl | exact Ex.field fld87_1 rfl | exact Ex.fieldS fld87_1 rfl)) rfl ?_
      refine OQ.ex rfl (fun w H => (by first | exact Ex.loadP Try.isAgg80 rfl | exact Ex.loadR Try.isAgg80 rfl | exact Ex.loadIn1 Try.isAgg80 rfl (Holds.to (by assumption)))) rfl ?_
      refine OQ.ex rfl (fun w H => (Ex.move rfl)) rfl ?_
      refine OQ.ex rfl (fun w H => (by first | exact Ex.loadAggP Try.isAgg41 Try.sizeOf41 rfl | exact Ex.loadAggN Try.isAgg41 Try.sizeOf41 rfl | exact Ex.loadIn Try.isAgg41 Try.sizeOf41 rfl (Holds.to (by assumption)))) rfl ?_
      refine OQ.ex rfl (fun w H => (Ex.move rfl)) rfl ?_
      refine OQ.ex rfl (fun w H => (by first | exact Ex.nilPtr rfl | exact Ex.nilFunc rfl | exact Ex.nilYield rfl)) rfl ?_
      refine OQ.ex rfl (fun w H => (by first | exact Ex.field0 fld87_2 rfl | exact Ex.field fld87_2 rfl | exact Ex.fieldS fld87_2 rfl)) rfl ?_
      refine OQ.ex rfl (fun w H => (by first | exact Ex.loadP Try.isAgg5 rfl | exact Ex.loadR Try.isAgg5 rfl | exact Ex.loadIn1 Try.isAgg5 rfl (Holds.to (by assumption)))) rfl ?_
      refine OQ.ex rfl (fun w H => (by first | exact Ex.idxN Try.runUnderlying85 Try.sizeOf41 rfl rfl | exact Ex.idxSN Try.runUnderlying85 Try.sizeOf41 rfl rfl | exact Ex.idxIn Try.runUnderlying85 Try.sizeOf41 rfl rfl | exact Ex.idx Try.runUnderlying85 Try.sizeOf41 rfl rfl (by omega) (by omega))) rfl ?_
      refine OQ.step rfl ?_
      refine O.storeAggN (z := (x, y)) Try.sizeOf41 rfl rfl rfl (fun w H => ?_) rfl
      refine O.thenNil ⟨(by first | exact Holds.to (by assumption) | assumption), ?_⟩
      refine OQ.ex rfl (fun w H => (by first | exact Ex.idxR Try.runUnderlying80 Try.sizeOf5 rfl rfl | exact Ex.idxIn Try.runUnderlying80 Try.sizeOf5 rfl rfl | exact Ex.idxS Try.runUnderlying80 Try.sizeOf5 rfl rfl | exact Ex.idx Try.runUnderlying80 Try.sizeOf5 rfl rfl (by omega) (by omega))) rfl ?_
      refine OQ.step rfl ?_
      first | refine O.storeP Try.sizeOf5 rfl rfl (fun w H => ?_) | refine O.storeR Try.sizeOf5 rfl rfl (fun w H => ?_)
      refine O.thenNil ⟨(by first | exact Holds.to (by assumption) | assumption), ?_⟩
      refine OQ.done ?_
      refine hK6 _ _ _ ?_
      refine W.seq (fun K7 hK7 => ?_)
      refine W.region ?_
      refine O.ex (Ex.assign rfl) rfl ?_
      refine O.nil ?_
      refine hK7 _ _ _ ?_
      refine W.ret ?_
      try dsimp only [thenQ, blockQ]
      refine ⟨_, ⟨_, _, rfl, rfl, rfl⟩, ?_⟩
      first
      | (refine ⟨by simp only [oneOf]; rw [if_neg (by omega)], ?_⟩
         rw [show R.set i (x, y) = R from if_neg (by omega)]
         exact rowP_open.2 ⟨vv, wv, Holds.to (by assumption)⟩)
      | (refine ⟨by simp only [oneOf]; rw [if_pos (by omega)], ?_⟩
         rw [show R.set i (x, y) = { v := R.v.set i.toNat (x, y), wh := R.wh.set i.toNat R.now, now := R.now, n := R.n + 1 } from by unfold RowM.set; rw [if_pos (by omega), if_neg (by unfold RowM.has; omega)]]
         exact rowP_open.2 ⟨vv, wv, Holds.to (by assumption)⟩)
      | (refine ⟨by simp only [oneOf]; rw [if_pos (by omega)], ?_⟩
         rw [show R.set i (x, y) = { v := R.v.set i.toNat (x, y), wh := R.wh.set i.toNat R.now, now := R.now, n := R.n } from by unfold RowM.set; rw [if_pos (by omega), if_pos (by unfold RowM.has; omega)]]
         exact rowP_open.2 ⟨vv, wv, Holds.to (by assumption)⟩)
    · refine W.skip ?_
      refine hK4 _ _ _ ?_
      refine W.seq (fun K8 hK8 => ?_)
      have s1 := arrN_sl (sz := 2) (e := encP) (v := vv) (xs := R.v) (Holds.to (by assumption)) (by omega)
      have s2 := arr_sl (e := Value.int .u8) (v := wv) (xs := R.wh) (Holds.to (by assumption)) (by omega)
      refine W.drawTo (pt r _ :: pt b5 _ :: []) (.take 0 (.take 1 (.take 2 (.take 3 (.take 4 (.take 5 (.take 6 (.take 7 (.take 8 (.take 9 (.take 10 (.take 11 (.take 12 (.take 13 (.take 14 (.take 15 (.one 16 (.take 17 (.one 18 .nil))))))))))))))))))) (mixed) (fun _ _ _ _ h => h) (by assumption) PP.auto (by decide +kernel) (fun w H => ?_)
      refine OQ.ex rfl (fun w H => (Ex.move rfl)) rfl ?_
      refine OQ.ex rfl (fun w H => (by first | exact Ex.nilPtr rfl | exact Ex.nilFunc rfl | exact Ex.nilYield rfl)) rfl ?_
      refine OQ.ex rfl (fun w H => (by first | exact Ex.field0 fld87_0 rfl | exact Ex.field fld87_0 rfl | exact Ex.fieldS fld87_0 rfl)) rfl ?_
      refine OQ.ex rfl (fun w H => (by first | exact Ex.loadP Try.isAgg85 rfl | exact Ex.loadR Try.isAgg85 rfl | exact Ex.loadIn1 Try.isAgg85 rfl (Holds.to (by assumption)))) rfl ?_
      refine OQ.ex rfl (fun w H => (Ex.move rfl)) rfl ?_
      refine OQ.ex rfl (fun w H => (Ex.move rfl)) rfl ?_
      refine OQ.ex rfl (fun w H => (by first | exact Ex.nilPtr rfl | exact Ex.nilFunc rfl | exact Ex.nilYield rfl)) rfl ?_
      refine OQ.ex rfl (fun w H => (by first | exact Ex.field0 fld87_1 rfl | exact Ex.field fld87_1 rfl | exact Ex.fieldS fld87_1 rfl)) rfl ?_
      refine OQ.ex rfl (fun w H => (by first | exact Ex.loadP Try.isAgg80 rfl | exact Ex.loadR Try.isAgg80 rfl | exact Ex.loadIn1 Try.isAgg80 rfl (Holds.to (by assumption)))) rfl ?_
      refine OQ.ex rfl (fun w H => (Ex.move rfl)) rfl ?_
      refine OQ.ex rfl (fun w H => (by first | exact Ex.loadAggP Try.isAgg41 Try.sizeOf41 rfl | exact Ex.loadAggN Try.isAgg41 Try.sizeOf41 rfl | exact Ex.loadIn Try.isAgg41 Try.sizeOf41 rfl (Holds.to (by assumption)))) rfl ?_
      refine OQ.ex rfl (fun w H => (Ex.move rfl)) rfl ?_
      refine OQ.ex rfl (fun w H => (by first | exact Ex.nilPtr rfl | exact Ex.nilFunc rfl | exact Ex.nilYield rfl)) rfl ?_
      refine OQ.ex rfl (fun w H => (by first | exact Ex.field0 fld87_2 rfl | exact Ex.field fld87_2 rfl | exact Ex.fieldS fld87_2 rfl)) rfl ?_
      refine OQ.ex rfl (fun w H => (by first | exact Ex.loadP Try.isAgg5 rfl | exact Ex.loadR Try.isAgg5 rfl | exact Ex.loadIn1 Try.isAgg5 rfl (Holds.to (by assumption)))) rfl ?_
      refine OQ.ex rfl (fun w H => (by first | exact Ex.idxN Try.runUnderlying85 Try.sizeOf41 rfl rfl | exact Ex.idxSN Try.runUnderlying85 Try.sizeOf41 rfl rfl | exact Ex.idxIn Try.runUnderlying85 Try.sizeOf41 rfl rfl | exact Ex.idx Try.runUnderlying85 Try.sizeOf41 rfl rfl (by omega) (by omega))) rfl ?_
      refine OQ.step rfl ?_
      refine O.storeAggN (z := (x, y)) Try.sizeOf41 rfl rfl rfl (fun w H => ?_) rfl
      refine O.thenNil ⟨(by first | exact Holds.to (by assumption) | assumption), ?_⟩
      refine OQ.ex rfl (fun w H => (by first | exact Ex.idxR Try.runUnderlying80 Try.sizeOf5 rfl rfl | exact Ex.idxIn Try.runUnderlying80 Try.sizeOf5 rfl rfl | exact Ex.idxS Try.runUnderlying80 Try.sizeOf5 rfl rfl | exact Ex.idx Try.runUnderlying80 Try.sizeOf5 rfl rfl (by omega) (by omega))) rfl ?_
      refine OQ.step rfl ?_
      first | refine O.storeP Try.sizeOf5 rfl rfl (fun w H => ?_) | refine O.storeR Try.sizeOf5 rfl rfl (fun w H => ?_)
      refine O.thenNil ⟨(by first | exact Holds.to (by assumption) | assumption), ?_⟩
      refine OQ.done ?_
      refine hK8 _ _ _ ?_
      refine W.seq (fun K9 hK9 => ?_)
      refine W.region ?_
      refine O.ex (Ex.assign rfl) rfl ?_
      refine O.nil ?_
      refine hK9 _ _ _ ?_
      refine W.ret ?_
      try dsimp only [thenQ, blockQ]
      refine ⟨_, ⟨_, _, rfl, rfl, rfl⟩, ?_⟩
      first
      | (refine ⟨by simp only [oneOf]; rw [if_neg (by omega)], ?_⟩
         rw [show R.set i (x, y) = R from if_neg (by omega)]
         exact rowP_open.2 ⟨vv, wv, Holds.to (by assumption)⟩)
      | (refine ⟨by simp only [oneOf]; rw [if_pos (by omega)], ?_⟩
         rw [show R.set i (x, y) = { v := R.v.set i.toNat (x, y), wh := R.wh.set i.toNat R.now, now := R.now, n := R.n + 1 } from by unfold RowM.set; rw [if_pos (by omega), if_neg (by unfold RowM.has; omega)]]
         exact rowP_open.2 ⟨vv, wv, Holds.to (by assumption)⟩)
      | (refine ⟨by simp only [oneOf]; rw [if_pos (by omega)], ?_⟩
         rw [show R.set i (x, y) = { v := R.v.set i.toNat (x, y), wh := R.wh.set i.toNat R.now, now := R.now, n := R.n } from by unfold RowM.set; rw [if_pos (by omega), if_pos (by unfold RowM.has; omega)]]
         exact rowP_open.2 ⟨vv, wv, Holds.to (by assumption)⟩)

theorem getP_ct {w : World} {r : Nat} {R : RowM (Int × Int)} {i : Int} {L : List HProp} (H : Holds w (RowP r R :: L)) (hl : R.wh.length = R.v.length) (hb : R.has i) :
    CT Try.prog 22 [.pointer (some ⟨r, 0, none⟩), .int .i64 i] w fun u w' => u = .tuple #[.agg #[.int .i64 (R.v.getD i.toNat default).1, .int .i64 (R.v.getD i.toNat default).2], .bool true] ∧ Holds w' (RowP r R :: L) := by
  obtain ⟨vv, wv, H⟩ := rowP_open.1 H
  unfold RowM.has at hb
  refine CT.enter (N := 25) Try.func22 rfl rfl rfl rfl ?_
  refine W.seq (fun K0 hK0 => ?_)
  refine W.region ?_
  refine O.allocP Try.zeroValue41 (fun b4 w H => ?_)
  refine O.ex (Ex.assign rfl) rfl ?_
  refine O.nil ?_
  refine hK0 _ _ _ ?_
  refine W.seq (fun K1 hK1 => ?_)
  refine W.seq (fun K2 hK2 => ?_)
  refine W.region ?_
  refine O.ex (Ex.move rfl) rfl ?_
  refine O.ex (Ex.move rfl) rfl ?_
  refine O.callF Try.call48 rfl rfl (CT.mono (thereP_ct (Holds.to (by assumption))) ?_)
  rintro _ w ⟨rfl, H⟩
  refine O.ex (by first | exact Ex.notD rfl | exact Ex.not rfl) rfl ?_
  refine O.ex (Ex.move rfl) rfl ?_
  refine O.known (t := 11) (c := false) rfl (by first | rfl | (refine decide_eq_false ?_; omega)) ?_
  refine O.guard_t rfl rfl ?_
  refine O.ex (Ex.move rfl) rfl ?_
  refine O.guard_t rfl rfl ?_
  refine O.ex (Ex.move rfl) rfl ?_
  refine O.guard_t rfl rfl ?_
  refine O.callF Try.call49 rfl rfl (CT.mono (isP_ct (Holds.to (by assumption)) (by omega) (by omega)) ?_)
  rintro _ w ⟨rfl, H⟩
  refine O.guard_t rfl rfl ?_
  refine O.ex (by first | exact Ex.notD rfl | exact Ex.not rfl) rfl ?_
  refine O.ex (Ex.pick_f rfl rfl) rfl ?_
  refine O.nil ?_
  refine hK2 _ _ _ ?_
  refine W.known_f rfl (by first | rfl | (refine decide_eq_false ?_; omega)) ?_
  refine W.skip ?_
  refine hK1 _ _ _ ?_
  refine W.seq (fun K3 hK3 => ?_)
  refine W.region ?_
  refine O.ex (Ex.move rfl) rfl ?_
  refine O.ex (by first | exact Ex.nilPtr rfl | exact Ex.nilFunc rfl | exact Ex.nilYield rfl) rfl ?_
  refine O.ex (by first | exact Ex.field0 fld87_0 rfl | exact Ex.field fld87_0 rfl | exact Ex.fieldS fld87_0 rfl) rfl ?_
  refine O.ex (by first | exact Ex.loadP Try.isAgg85 rfl | exact Ex.loadR Try.isAgg85 rfl | exact Ex.loadIn1 Try.isAgg85 rfl (Holds.to (by assumption))) rfl ?_
  refine O.ex (Ex.move rfl) rfl ?_
  refine O.ex (by first | exact Ex.idxN Try.runUnderlying85 Try.sizeOf41 rfl rfl | exact Ex.idxSN Try.runUnderlying85 Try.sizeOf41 rfl rfl | exact Ex.idxIn Try.runUnderlying85 Try.sizeOf41 rfl rfl | exact Ex.idx Try.runUnderlying85 Try.sizeOf41 rfl rfl (by omega) (by omega)) rfl ?_
  refine O.ex (by first | exact Ex.loadAggP Try.isAgg41 Try.sizeOf41 rfl | exact Ex.loadAggN Try.isAgg41 Try.sizeOf41 rfl | exact Ex.loadIn Try.isAgg41 Try.sizeOf41 rfl (Holds.to (by assumption))) rfl ?_
  first | refine O.storeAggP Try.sizeOf41 rfl rfl rfl rfl (fun w H => ?_) | refine O.storeAggN Try.sizeOf41 rfl rfl rfl (fun w H => ?_) rfl
  refine O.ex (Ex.assign rfl) rfl ?_
  refine O.nil ?_
  refine hK3 _ _ _ ?_
  refine W.ret ?_
  try dsimp only [thenQ, blockQ]
  refine ⟨_, ⟨_, _, _, rfl, rfl, loadVar_agg Try.isAgg41 Try.sizeOf41, _, _, rfl, rfl, rfl⟩, ?_⟩
  exact ⟨rfl, rowP_open.2 ⟨vv, wv, Holds.to (by assumption)⟩⟩

theorem lenP_ct {w : World} {r : Nat} {R : RowM (Int × Int)} {L : List HProp} (H : Holds w (RowP r R :: L)) :
    CT Try.prog 23 [.pointer (some ⟨r, 0, none⟩)] w fun u w' => u = .int .i64 R.n ∧ Holds w' (RowP r R :: L) := by
  obtain ⟨vv, wv, H⟩ := rowP_open.1 H
  refine CT.enter (N := 7) Try.func23 rfl rfl rfl rfl ?_
  refine W.seq (fun K0 hK0 => ?_)
  refine W.region ?_
  refine O.ex (Ex.assign rfl) rfl ?_
  refine O.nil ?_
  refine hK0 _ _ _ ?_
  refine W.seq (fun K1 hK1 => ?_)
  refine W.region ?_
  refine O.ex (Ex.move rfl) rfl ?_
  refine O.ex (by first | exact Ex.nilPtr rfl | exact Ex.nilFunc rfl | exact Ex.nilYield rfl) rfl ?_
  refine O.ex (by first | exact Ex.field0 fld87_3 rfl | exact Ex.field fld87_3 rfl | exact Ex.fieldS fld87_3 rfl) rfl ?_
  refine O.ex (by first | exact Ex.loadP Try.isAgg3 rfl | exact Ex.loadR Try.isAgg3 rfl | exact Ex.loadIn1 Try.isAgg3 rfl (Holds.to (by assumption))) rfl ?_
  refine O.ex (Ex.assign rfl) rfl ?_
  refine O.nil ?_
  refine hK1 _ _ _ ?_
  refine W.ret ?_
  try dsimp only [thenQ, blockQ]
  refine ⟨_, ⟨_, _, rfl, rfl, rfl⟩, ?_⟩
  exact ⟨rfl, rowP_open.2 ⟨vv, wv, Holds.to (by assumption)⟩⟩

theorem clearP_ct {w : World} {r : Nat} {R : RowM (Int × Int)} {L : List HProp} (H : Holds w (RowP r R :: L)) (h0 : 0 ≤ R.now) (h1 : R.now ≤ 255) :
    CT Try.prog 21 [.pointer (some ⟨r, 0, none⟩)] w fun u w' => u = .tuple #[] ∧ Holds w' (RowP r R.clear :: L) := by
  obtain ⟨vv, wv, H⟩ := rowP_open.1 H
  have hw : IntKind.u8.wrap (R.now + 1) = if R.now = 255 then 0 else R.now + 1 := by
    split
    · rename_i h; rw [h]; rfl
    · exact IntWalk.u8_in _ ⟨by omega, by omega⟩
  refine CT.enter (N := 24) Try.func21 rfl rfl rfl rfl ?_
  refine W.seq (fun K0 hK0 => ?_)
  refine W.region ?_
  refine O.ex (Ex.move rfl) rfl ?_
  refine O.ex (by first | exact Ex.nilPtr rfl | exact Ex.nilFunc rfl | exact Ex.nilYield rfl) rfl ?_
  refine O.ex (by first | exact Ex.field0 fld87_3 rfl | exact Ex.field fld87_3 rfl | exact Ex.fieldS fld87_3 rfl) rfl ?_
  first | refine O.storeP Try.sizeOf3 rfl rfl (fun w H => ?_) | refine O.storeR Try.sizeOf3 rfl rfl (fun w H => ?_)
  refine O.nil ?_
  refine hK0 _ _ _ ?_
  refine W.seq (fun K1 hK1 => ?_)
  refine W.region ?_
  refine O.ex (Ex.move rfl) rfl ?_
  refine O.ex (by first | exact Ex.nilPtr rfl | exact Ex.nilFunc rfl | exact Ex.nilYield rfl) rfl ?_
  refine O.ex (by first | exact Ex.field0 fld87_2 rfl | exact Ex.field fld87_2 rfl | exact Ex.fieldS fld87_2 rfl) rfl ?_
  refine O.ex (by first | exact Ex.loadP Try.isAgg5 rfl | exact Ex.loadR Try.isAgg5 rfl | exact Ex.loadIn1 Try.isAgg5 rfl (Holds.to (by assumption))) rfl ?_
  refine O.ex (Ex.add rfl rfl hw) rfl ?_
  refine O.ex (by first | exact Ex.nilPtr rfl | exact Ex.nilFunc rfl | exact Ex.nilYield rfl) rfl ?_
  refine O.ex (by first | exact Ex.field0 fld87_2 rfl | exact Ex.field fld87_2 rfl | exact Ex.fieldS fld87_2 rfl) rfl ?_
  first | refine O.storeP Try.sizeOf5 rfl rfl (fun w H => ?_) | refine O.storeR Try.sizeOf5 rfl rfl (fun w H => ?_)
  refine O.nil ?_
  refine hK1 _ _ _ ?_
  refine W.seq (fun K2 hK2 => ?_)
  refine W.region ?_
  refine O.ex (Ex.move rfl) rfl ?_
  refine O.ex (by first | exact Ex.nilPtr rfl | exact Ex.nilFunc rfl | exact Ex.nilYield rfl) rfl ?_
  refine O.ex (by first | exact Ex.field0 fld87_2 rfl | exact Ex.field fld87_2 rfl | exact Ex.fieldS fld87_2 rfl) rfl ?_
  refine O.ex (by first | exact Ex.loadP Try.isAgg5 rfl | exact Ex.loadR Try.isAgg5 rfl | exact Ex.loadIn1 Try.isAgg5 rfl (Holds.to (by assumption))) rfl ?_
  refine O.ex (Ex.eqlI rfl rfl) rfl ?_
  refine O.nil ?_
  refine hK2 _ _ _ ?_
  first | refine W.cond_p rfl (fun h16 => ?_) (fun h16 => ?_) | refine W.cond_b rfl (fun h16 => ?_) (fun h16 => ?_)
  · refine W.seq (fun K3 hK3 => ?_)
    refine W.region ?_
    refine O.ex (Ex.move rfl) rfl ?_
    refine O.ex (by first | exact Ex.nilPtr rfl | exact Ex.nilFunc rfl | exact Ex.nilYield rfl) rfl ?_
    refine O.ex (by first | exact Ex.field0 fld87_1 rfl | exact Ex.field fld87_1 rfl | exact Ex.fieldS fld87_1 rfl) rfl ?_
    refine O.ex (by first | exact Ex.loadP Try.isAgg80 rfl | exact Ex.loadR Try.isAgg80 rfl | exact Ex.loadIn1 Try.isAgg80 rfl (Holds.to (by assumption))) rfl ?_
    refine O.clearR (0 : Int) (e := Value.int .u8) Try.runUnderlying80 Try.zeroValue5 rfl (fun w H => ?_)
    refine O.nil ?_
    refine hK3 _ _ _ ?_
    refine W.region ?_
    refine O.ex (Ex.move rfl) rfl ?_
    refine O.ex (by first | exact Ex.nilPtr rfl | exact Ex.nilFunc rfl | exact Ex.nilYield rfl) rfl ?_
    refine O.ex (by first | exact Ex.field0 fld87_2 rfl | exact Ex.field fld87_2 rfl | exact Ex.fieldS fld87_2 rfl) rfl ?_
    first | refine O.storeP Try.sizeOf5 rfl rfl (fun w H => ?_) | refine O.storeR Try.sizeOf5 rfl rfl (fun w H => ?_)
    refine O.nil ?_
    try dsimp only [thenQ, blockQ]
    refine ⟨_, rfl, ?_⟩
    first
    | (have e : R.now = 255 := by split at h16 <;> omega
       refine ⟨rfl, ?_⟩
       rw [show R.clear = { v := R.v, wh := List.replicate R.wh.length 0, now := 1, n := 0 } from if_pos e]
       exact rowP_open.2 ⟨vv, wv, Holds.to (by assumption)⟩)
    | (have e : ¬ R.now = 255 := by split at h16 <;> omega
       refine ⟨rfl, ?_⟩
       rw [if_neg e] at H
       rw [show R.clear = { v := R.v, wh := R.wh, now := R.now + 1, n := 0 } from if_neg e]
       exact rowP_open.2 ⟨vv, wv, Holds.to (by assumption)⟩)
  · refine W.skip ?_
    try dsimp only [thenQ, blockQ]
    refine ⟨_, rfl, ?_⟩
    first
    | (have e : R.now = 255 := by split at h16 <;> omega
       refine ⟨rfl, ?_⟩
       rw [show R.clear = { v := R.v, wh := List.replicate R.wh.length 0, now := 1, n := 0 } from if_pos e]
       exact rowP_open.2 ⟨vv, wv, Holds.to (by assumption)⟩)
    | (have e : ¬ R.now = 255 := by split at h16 <;> omega
       refine ⟨rfl, ?_⟩
       rw [if_neg e] at H
       rw [show R.clear = { v := R.v, wh := R.wh, now := R.now + 1, n := 0 } from if_neg e]
       exact rowP_open.2 ⟨vv, wv, Holds.to (by assumption)⟩)

theorem newP_ct {w : World} {n : Int} {L : List HProp} (H : Holds w L) (h0 : 0 ≤ n) (h1 : n ≤ 64) :
    CT Try.prog 19 [.int .i64 n] w fun u w' => ∃ r, u = .tuple #[.pointer (some ⟨r, 0, none⟩), .int .i64 0] ∧ Holds w' (RowP r (RowM.new ((0 : Int), (0 : Int)) n.toNat) :: L) := by
  refine CT.enter (N := 16) Try.func19 rfl rfl rfl rfl ?_
  refine W.seq (fun K0 hK0 => ?_)
  refine W.region ?_
  refine O.ex (Ex.assign rfl) rfl ?_
  refine O.ex (Ex.assign rfl) rfl ?_
  refine O.nil ?_
  refine hK0 _ _ _ ?_
  refine W.seq (fun K1 hK1 => ?_)
  refine W.seq (fun K2 hK2 => ?_)
  refine W.region ?_
  refine O.ex (Ex.move rfl) rfl ?_
  refine O.ex (Ex.lss rfl rfl) rfl ?_
  refine O.ex (Ex.move rfl) rfl ?_
  refine O.known (t := 6) (c := false) rfl (by first | rfl | (refine decide_eq_false ?_; omega)) ?_
  refine O.guard_t rfl rfl ?_
  refine O.ex (Ex.move rfl) rfl ?_
  refine O.guard_t rfl rfl ?_
  refine O.ex (Ex.gtr rfl rfl) rfl ?_
  refine O.ex (Ex.pick_f rfl rfl) rfl ?_
  refine O.nil ?_
  refine hK2 _ _ _ ?_
  refine W.known_f rfl (by first | rfl | (refine decide_eq_false ?_; omega)) ?_
  refine W.skip ?_
  refine hK1 _ _ _ ?_
  refine W.seq (fun K3 hK3 => ?_)
  refine W.drawTo _ (.take 0 (.take 2 (.two 1 3 (.one 3 (.take 4 (.one 5 (.take 6 (.take 7 .nil))))) (.one 1 (.take 4 (.one 5 (.take 6 (.take 7 .nil)))))))) (mixed) (fun _ _ _ _ h => h) (by assumption) (PP.refl _) (by decide +kernel) (fun w H => ?_)
  refine OQ.ex rfl (fun w H => (Ex.move rfl)) rfl ?_
  refine OQ.ex rfl (fun w H => (Ex.move rfl)) rfl ?_
  refine OQ.two rfl rfl ?_ ?_
  · refine O.makeN ((0 : Int), (0 : Int)) (e := encP) (bt := 16) Try.runUnderlying85 Try.sizeOf41 Try.zeroValue41 Try.typeInfo41 rfl rfl rfl rfl (by decide) (fun s11 w hs11 H => ?_)
    refine O.thenNil ⟨(by first | exact Holds.to (by assumption) | assumption), ?_⟩
    refine OQ.step rfl ?_
    refine O.makeR (0 : Int) (e := Value.int .u8) (bt := 1) Try.runUnderlying80 Try.sizeOf5 Try.zeroValue5 Try.typeInfo5 rfl rfl rfl (fun s13 w hs13 H => ?_)
    refine O.thenNil ⟨(by first | exact Holds.to (by assumption) | assumption), ?_⟩
    refine OQ.ex rfl (fun w H => (Ex.build rfl (bld87_0_1_2 _ _ _ (by first | rfl | assumption) (by first | rfl | assumption) (by first | rfl | assumption)))) rfl ?_
    refine OQ.step rfl ?_
    refine O.boxP rfl (fun b15 w H => ?_)
    refine O.thenNil ⟨(by first | exact Holds.to (by assumption) | assumption), ?_⟩
    refine OQ.ex rfl (fun w H => (Ex.assign rfl)) rfl ?_
    refine OQ.ex rfl (fun w H => (Ex.assign rfl)) rfl ?_
    refine OQ.done ?_
    refine hK3 _ _ _ ?_
    refine W.ret ?_
    try dsimp only [thenQ, blockQ]
    refine ⟨_, ⟨_, _, rfl, rfl, _, _, rfl, rfl, rfl⟩, ?_⟩
    exact ⟨_, rfl, rowP_open.2 ⟨_, _, Holds.to (by assumption)⟩⟩
  · refine O.makeR (0 : Int) (e := Value.int .u8) (bt := 1) Try.runUnderlying80 Try.sizeOf5 Try.zeroValue5 Try.typeInfo5 rfl rfl rfl (fun s13 w hs13 H => ?_)
    refine O.thenNil ⟨(by first | exact Holds.to (by assumption) | assumption), ?_⟩
    refine OQ.step rfl ?_
    refine O.makeN ((0 : Int), (0 : Int)) (e := encP) (bt := 16) Try.runUnderlying85 Try.sizeOf41 Try.zeroValue41 Try.typeInfo41 rfl rfl rfl rfl (by decide) (fun s11 w hs11 H => ?_)
    refine O.thenNil ⟨(by first | exact Holds.to (by assumption) | assumption), ?_⟩
    refine OQ.ex rfl (fun w H => (Ex.build rfl (bld87_0_1_2 _ _ _ (by first | rfl | assumption) (by first | rfl | assumption) (by first | rfl | assumption)))) rfl ?_
    refine OQ.step rfl ?_
    refine O.boxP rfl (fun b15 w H => ?_)
    refine O.thenNil ⟨(by first | exact Holds.to (by assumption) | assumption), ?_⟩
    refine OQ.ex rfl (fun w H => (Ex.assign rfl)) rfl ?_
    refine OQ.ex rfl (fun w H => (Ex.assign rfl)) rfl ?_
    refine OQ.done ?_
    refine hK3 _ _ _ ?_
    refine W.ret ?_
    try dsimp only [thenQ, blockQ]
    refine ⟨_, ⟨_, _, rfl, rfl, _, _, rfl, rfl, rfl⟩, ?_⟩
    exact ⟨_, rfl, rowP_open.2 ⟨_, _, Holds.to (by assumption)⟩⟩

theorem equalIn_int (dp : Nat) (a c : Int) (w : World) : (Op.equalIn (dp + 1) 3 (.int .i64 a) (.int .i64 c)).run Try.prog w = .ok (decide (a = c)) w := by
  simp [Op.equalIn, Try.runUnderlying3]; rfl
theorem equalIn_pair (dp : Nat) (a b c d : Int) (w : World) : (Op.equalIn (dp + 1 + 1) 41 (.agg #[.int .i64 a, .int .i64 b]) (.agg #[.int .i64 c, .int .i64 d])).run Try.prog w = .ok (decide (a = c ∧ b = d)) w := by
  rw [Op.equalIn]
  simp [Try.runUnderlying41, Try.sizeOf3, List.range', part, Try.isAgg3, equalIn_int]
  by_cases h : a = c <;> by_cases k : b = d <;> simp [h, k]
theorem eqPair (a b c d : Int) (w : World) : (binOp .eql 41 (.agg #[.int .i64 a, .int .i64 b]) (.agg #[.int .i64 c, .int .i64 d])).run Try.prog w = .ok (.bool (decide (a = c ∧ b = d))) w := by
  refine Go.Rr.binOp_eql nofun nofun nofun nofun ?_
  rw [Go.Rr.equal_eq]
  exact equalIn_pair 9998 a b c d w
theorem guardPair (x y : Operand) (u v : Array Value) (w : World) : (eqGuard .eql 41 x y (.agg u) (.agg v)).run Try.prog w = .ok () w := by
  simp [eqGuard, Try.eqGuardType41]

/-- Nothing is anywhere. -/
structure Cl {α : Type} (R : RowM α) (k : Nat) : Prop where
  lv : R.v.length = k
  lw : R.wh.length = k
  now0 : 1 ≤ R.now
  now1 : R.now ≤ 255
  wh : ∀ j, j < k → 0 ≤ R.wh.getD j 0 ∧ R.wh.getD j 0 < R.now
  n : R.n = 0
theorem Cl.new {α : Type} (z : α) (k : Nat) : Cl (RowM.new z k) k where
  lv := by simp [RowM.new]
  lw := by simp [RowM.new]
  now0 := by simp [RowM.new]
  now1 := by simp [RowM.new]
  wh := fun j hj => by simp [RowM.new, List.getD_eq_getElem?_getD, hj]
  n := rfl
theorem Cl.not_has {α : Type} {R : RowM α} {k : Nat} (h : Cl R k) (i : Int) (hi : 0 ≤ i) (hk : i < k) : ¬ R.has i := fun hh => by
  have := (h.wh i.toNat (by omega)).2
  have := hh.2
  omega
theorem Cl.set_eq {α : Type} {R : RowM α} {k : Nat} (h : Cl R k) (i : Int) (x : α) (hi : 0 ≤ i) (hk : i < k) : R.set i x = { v := R.v.set i.toNat x, wh := R.wh.set i.toNat R.now, now := R.now, n := 1 } := by
  unfold RowM.set
  rw [if_pos ⟨hi, by rw [h.lv]; exact hk⟩, if_neg (h.not_has i hi hk), h.n]
  rfl
theorem Cl.round {α : Type} {R : RowM α} {k : Nat} (h : Cl R k) (i : Int) (x : α) (hi : 0 ≤ i) (hk : i < k) : Cl ((R.set i x).clear) k := by
  rw [h.set_eq i x hi hk]
  have hn0 := h.now0
  have hn1 := h.now1
  unfold RowM.clear
  split
  · rename_i e
    constructor <;> simp [h.lv, h.lw]
    intro j hj
    simp [hj]
  · rename_i e
    simp only at e
    constructor <;> simp [h.lv, h.lw]
    · omega
    · omega
    · intro j hj
      have := h.wh j hj
      have h2 := getD_set R.wh i.toNat j R.now 0 (by rw [h.lw]; omega)
      simp only [List.getD_eq_getElem?_getD] at this h2
      rw [h2]
      split <;> omega
set_option maxHeartbeats 1000000 in
theorem stampSets_ct {w0 : World} {n a x y tm : Int} (hn : (Lit.int .u8 n).wf = true) (ha : (Lit.int .u8 a).wf = true) (hx : (Lit.int .i64 x).wf = true) (hy : (Lit.int .i64 y).wf = true) (ht : (Lit.int .u16 tm).wf = true) :
    CT Try.prog 4 [.int .u8 n, .int .u8 a, .int .i64 x, .int .i64 y, .int .u16 tm] w0 fun u w' => u = .bool true ∧ RowKit.Below w0.heap.size w0 w' := by
  have H := Holds.base_refl w0
  obtain ⟨n0, n1⟩ := bounds_u8 hn
  obtain ⟨a0, a1⟩ := bounds_u8 ha
  obtain ⟨t0, t1⟩ := bounds_u16 ht
  refine CT.enter (N := 87) Try.func4 rfl rfl rfl rfl ?_
  refine W.seq (fun K0 hK0 => ?_)
  refine W.region ?_
  refine O.ex (Ex.assign rfl) rfl ?_
  refine O.nil ?_
  refine hK0 _ _ _ ?_
  refine W.seq (fun K1 hK1 => ?_)
  refine W.seq (fun K2 hK2 => ?_)
  refine W.region ?_
  refine O.callF Try.call10 rfl rfl (CT.mono (awake05_ct (by assumption)) ?_)
  rintro _ w ⟨rfl, H⟩
  refine O.ex (by first | exact Ex.notD rfl | exact Ex.not rfl) rfl ?_
  refine O.nil ?_
  refine hK2 _ _ _ ?_
  refine W.known_f rfl (by first | rfl | decide | (refine decide_eq_true ?_; exact ⟨rfl, rfl⟩)) ?_
  refine W.skip ?_
  refine hK1 _ _ _ ?_
  refine W.seq (fun K3 hK3 => ?_)
  refine W.region ?_
  refine O.ex (Ex.move rfl) rfl ?_
  refine O.ex (by first | exact Ex.convToI Try.runUnderlying5 Try.runUnderlying3 rfl | exact Ex.convW Try.runUnderlying5 Try.runUnderlying3 rfl) rfl ?_
  refine O.ex (by first | exact Ex.remI rfl rfl | exact Ex.rem rfl rfl (by omega) rfl) rfl ?_
  refine O.ex (by first | exact Ex.addI rfl rfl | exact Ex.add rfl rfl rfl) rfl ?_
  refine O.ex (Ex.assign rfl) rfl ?_
  refine O.nil ?_
  refine hK3 _ _ _ ?_
  refine W.seq (fun K4 hK4 => ?_)
  refine W.region ?_
  refine O.ex (Ex.move rfl) rfl ?_
  refine O.callF Try.call19 rfl rfl (CT.mono (newP_ct (by assumption) (by omega) (by omega)) ?_)
  rintro _ w ⟨r, rfl, H⟩
  refine O.ex (Ex.move rfl) rfl ?_
  refine O.ex (Ex.extract rfl rfl) rfl ?_
  refine O.ex (Ex.extract rfl rfl) rfl ?_
  refine O.ex (Ex.assign rfl) rfl ?_
  refine O.ex (Ex.assign rfl) rfl ?_
  refine O.nil ?_
  refine hK4 _ _ _ ?_
  refine W.seq (fun K5 hK5 => ?_)
  refine W.seq (fun K6 hK6 => ?_)
  refine W.region ?_
  refine O.ex (Ex.move rfl) rfl ?_
  refine O.ex (Ex.nilEq Try.runUnderlying38 rfl rfl) rfl ?_
  refine O.ex (Ex.move rfl) rfl ?_
  refine O.known (t := 31) (c := false) rfl (by first | rfl | decide | (refine decide_eq_true ?_; exact ⟨rfl, rfl⟩)) ?_
  refine O.guard_t rfl rfl ?_
  refine O.ex (Ex.move rfl) rfl ?_
  refine O.guard_t rfl rfl ?_
  refine O.ex (Ex.neqI rfl rfl) rfl ?_
  refine O.ex (Ex.pick_f rfl rfl) rfl ?_
  refine O.nil ?_
  refine hK6 _ _ _ ?_
  refine W.known_f rfl (by first | rfl | decide | (refine decide_eq_true ?_; exact ⟨rfl, rfl⟩)) ?_
  refine W.skip ?_
  refine hK5 _ _ _ ?_
  refine W.seq (fun K7 hK7 => ?_)
  refine W.seq (fun K8 hK8 => ?_)
  refine W.region ?_
  refine O.ex (Ex.assign rfl) rfl ?_
  refine O.nil ?_
  refine hK8 _ _ _ ?_
  refine W.block ?_
  obtain ⟨k, hk⟩ : ∃ k : Int, k = 1 + n % 64 := ⟨_, rfl⟩
  have hkn : (1 + n % 64).toNat = k.toNat := by rw [hk]
  rw [hkn] at H
  have hrel := Cl.new ((0 : Int), (0 : Int)) k.toNat
  refine W.loop (σ := Int × RowM (Int × Int)) (fun z => [(1, .int .u8 a), (2, .int .i64 x), (3, .int .i64 y), (4, .int .u16 tm), (11, .int .i64 k), (12, .pointer (some ⟨r, 0, none⟩)), (14, .int .i64 z.1)]) (fun z ds w => ds = [] ∧ 0 ≤ z.1 ∧ Cl z.2 k.toNat ∧ Holds w [RowP r z.2, base w0]) (fun z => (601 - z.1).toNat) (0, RowM.new ((0 : Int), (0 : Int)) k.toNat) ⟨rfl, rfl, rfl, rfl, by rw [hk]; rfl, rfl, rfl, trivial⟩ ⟨rfl, by omega, hrel, Holds.to (by assumption)⟩ ?_
  clear hrel H
  rintro ⟨i, R⟩ _ w ⟨rfl, hi0, hrel, H⟩
  dsimp only at hi0 hrel H ⊢
  have hm := Int.emod_nonneg i (show k ≠ 0 by omega)
  have hm2 := Int.emod_lt_of_pos i (show 0 < k by omega)
  refine W.seq (fun K9 hK9 => ?_)
  refine W.seq (fun K10 hK10 => ?_)
  refine W.region ?_
  refine O.ex (Ex.move rfl) rfl ?_
  refine O.ex (Ex.move rfl) rfl ?_
  refine O.ex (by first | exact Ex.convToI Try.runUnderlying30 Try.runUnderlying3 rfl | exact Ex.convW Try.runUnderlying30 Try.runUnderlying3 rfl) rfl ?_
  refine O.ex (by first | exact Ex.remI rfl rfl | exact Ex.rem rfl rfl (by omega) rfl) rfl ?_
  refine O.ex (Ex.lss rfl rfl) rfl ?_
  refine O.nil ?_
  refine hK10 _ _ _ ?_
  first | refine W.cond_p rfl (fun h39 => ?_) (fun h39 => ?_) | refine W.cond_b rfl (fun h39 => ?_) (fun h39 => ?_)
  · refine W.skip ?_
    refine hK9 _ _ _ ?_
    refine W.seq (fun K11 hK11 => ?_)
    refine W.block ?_
    refine W.seq (fun K12 hK12 => ?_)
    refine W.region ?_
    refine O.ex (Ex.move rfl) rfl ?_
    refine O.ex (Ex.move rfl) rfl ?_
    refine O.ex (Ex.move rfl) rfl ?_
    refine O.ex (by first | exact Ex.remI rfl rfl | exact Ex.rem rfl rfl (by omega) rfl) rfl ?_
    refine O.ex (Ex.move rfl) rfl ?_
    refine O.ex (Ex.move rfl) rfl ?_
    refine O.ex (Ex.build rfl (bld41_0_1 _ _ (by first | rfl | assumption) (by first | rfl | assumption))) rfl ?_
    refine O.callF Try.call20 rfl rfl (CT.mono (setP_ct (Holds.to (by assumption)) (by rw [hrel.lv, hrel.lw]) (by rw [hrel.n]; decide) (by rw [hrel.n]; decide)) ?_)
    rintro _ w ⟨rfl, H⟩
    refine O.nil ?_
    refine hK12 _ _ _ ?_
    refine W.region ?_
    refine O.ex (Ex.move rfl) rfl ?_
    refine O.callF Try.call21 rfl rfl (CT.mono (clearP_ct (Holds.to (by assumption)) (by rw [hrel.set_eq _ _ hm (by omega)]; have := hrel.now0; show 0 ≤ R.now; omega) (by rw [hrel.set_eq _ _ hm (by omega)]; exact hrel.now1)) ?_)
    rintro _ w ⟨rfl, H⟩
    refine O.nil ?_
    refine hK11 _ _ _ ?_
    refine W.region ?_
    refine O.ex (Ex.move rfl) rfl ?_
    refine O.ex (by first | exact Ex.addI rfl rfl | exact Ex.add rfl rfl rfl) rfl ?_
    refine O.ex (Ex.assign rfl) rfl ?_
    refine O.nil ?_
    exact ⟨(i + 1, _), ⟨rfl, rfl, rfl, rfl, rfl, rfl, rfl, trivial⟩, ⟨rfl, by omega, hrel.round _ _ hm (by omega), Holds.to (by assumption)⟩, by omega⟩
  · refine W.exit ?_
    refine hK7 _ _ _ ?_
    refine W.seq (fun K13 hK13 => ?_)
    refine W.region ?_
    refine O.ex (Ex.move rfl) rfl ?_
    refine O.ex (by first | exact Ex.convToI Try.runUnderlying5 Try.runUnderlying3 rfl | exact Ex.convW Try.runUnderlying5 Try.runUnderlying3 rfl) rfl ?_
    refine O.ex (Ex.move rfl) rfl ?_
    refine O.ex (by first | exact Ex.remI rfl rfl | exact Ex.rem rfl rfl (by omega) rfl) rfl ?_
    refine O.ex (Ex.assign rfl) rfl ?_
    refine O.nil ?_
    refine hK13 _ _ _ ?_
    refine W.seq (fun K14 hK14 => ?_)
    refine W.region ?_
    have hj := Int.emod_nonneg a (show k ≠ 0 by omega)
    have hj2 := Int.emod_lt_of_pos a (show 0 < k by omega)
    have e1 := hrel.set_eq (a % k) (y, x) hj (by omega)
    have e2 : ((R.set (a % k) (y, x)).set (a % k) (x, y)) = { v := (R.v.set (a % k).toNat (y, x)).set (a % k).toNat (x, y), wh := (R.wh.set (a % k).toNat R.now).set (a % k).toNat R.now, now := R.now, n := 1 } := by
      rw [e1]
      have hlw : (a % k).toNat < R.wh.length := by rw [hrel.lw]; omega
      unfold RowM.set
      rw [if_pos ⟨hj, by simp only [List.length_set]; rw [hrel.lv]; omega⟩, if_pos ⟨⟨hj, by simp only [List.length_set]; rw [hrel.lv]; omega⟩, by simp only [getD_set _ _ _ _ _ hlw, if_true]⟩]
    refine O.ex (Ex.move rfl) rfl ?_
    refine O.ex (Ex.move rfl) rfl ?_
    refine O.ex (Ex.move rfl) rfl ?_
    refine O.ex (Ex.move rfl) rfl ?_
    refine O.ex (Ex.build rfl (bld41_0_1 _ _ (by first | rfl | assumption) (by first | rfl | assumption))) rfl ?_
    refine O.callF Try.call20 rfl rfl (CT.mono (setP_ct (i := a % k) (x := y) (y := x) (Holds.to (by assumption)) (by rw [hrel.lv, hrel.lw]) (by rw [hrel.n]; decide) (by rw [hrel.n]; decide)) ?_)
    rintro _ w ⟨rfl, H⟩
    refine O.nil ?_
    refine hK14 _ _ _ ?_
    refine W.seq (fun K15 hK15 => ?_)
    refine W.region ?_
    refine O.ex (Ex.move rfl) rfl ?_
    refine O.ex (Ex.move rfl) rfl ?_
    refine O.ex (Ex.move rfl) rfl ?_
    refine O.ex (Ex.move rfl) rfl ?_
    refine O.ex (Ex.build rfl (bld41_0_1 _ _ (by first | rfl | assumption) (by first | rfl | assumption))) rfl ?_
    refine O.callF Try.call20 rfl rfl (CT.mono (setP_ct (i := a % k) (x := x) (y := y) (Holds.to (by assumption)) (by rw [e1]; simp [hrel.lv, hrel.lw]) (by rw [e1]; exact (by decide : (0:Int) ≤ 1)) (by rw [e1]; exact (by decide : (1:Int) ≤ 100))) ?_)
    rintro _ w ⟨rfl, H⟩
    refine O.nil ?_
    refine hK15 _ _ _ ?_
    refine W.seq (fun K16 hK16 => ?_)
    refine W.region ?_
    rw [e2] at H
    have hlw : (a % k).toNat < R.wh.length := by rw [hrel.lw]; omega
    have hlv : (a % k).toNat < (R.v.set (a % k).toNat (y, x)).length := by simp only [List.length_set]; rw [hrel.lv]; omega
    have e3 : (((R.v.set (a % k).toNat (y, x)).set (a % k).toNat (x, y)).getD (a % k).toNat default) = (x, y) := by rw [getD_set _ _ _ _ _ hlv, if_pos rfl]
    refine O.ex (Ex.move rfl) rfl ?_
    refine O.ex (Ex.move rfl) rfl ?_
    refine O.callF Try.call22 rfl rfl (CT.mono (getP_ct (Holds.to (by assumption)) (by simp [hrel.lv, hrel.lw]) ⟨⟨hj, by simp [hrel.lv]; omega⟩, by rw [getD_set _ _ _ _ _ (by simpa using hlw), if_pos rfl]⟩) ?_)
    rintro _ w ⟨rfl, H⟩
    simp only [e3]
    refine O.ex (Ex.move rfl) rfl ?_
    refine O.ex (Ex.extract rfl rfl) rfl ?_
    refine O.ex (Ex.extract rfl rfl) rfl ?_
    refine O.allocP Try.zeroValue41 (fun b16 w H => ?_)
    first | refine O.storeAggP Try.sizeOf41 rfl rfl rfl rfl (fun w H => ?_) | refine O.storeAggN Try.sizeOf41 rfl rfl rfl (fun w H => ?_) rfl
    refine O.ex (Ex.assign rfl) rfl ?_
    refine O.nil ?_
    refine hK16 _ _ _ ?_
    refine W.seq (fun K17 hK17 => ?_)
    refine W.region ?_
    refine O.ex (Ex.move rfl) rfl ?_
    refine O.ex (Ex.move rfl) rfl ?_
    refine O.known (t := 75) (c := true) rfl (by first | rfl | decide | (refine decide_eq_true ?_; exact ⟨rfl, rfl⟩)) ?_
    refine O.guard_t rfl rfl ?_
    refine O.ex (by first | exact Ex.loadAggP Try.isAgg41 Try.sizeOf41 rfl | exact Ex.loadAggN Try.isAgg41 Try.sizeOf41 rfl | exact Ex.loadIn Try.isAgg41 Try.sizeOf41 rfl (Holds.to (by assumption))) rfl ?_
    refine O.guard_t rfl rfl ?_
    refine O.ex (Ex.move rfl) rfl ?_
    refine O.guard_t rfl rfl ?_
    refine O.ex (Ex.move rfl) rfl ?_
    refine O.guard_t rfl rfl ?_
    refine O.ex (Ex.build rfl (bld41_0_1 _ _ (by first | rfl | assumption) (by first | rfl | assumption))) rfl ?_
    refine O.guard_t rfl rfl ?_
    refine O.ex (Ex.eql rfl rfl (guardPair _ _ _ _ _) (eqPair _ _ _ _ _)) rfl ?_
    refine O.ex (Ex.pick_t rfl rfl) rfl ?_
    refine O.ex (Ex.move rfl) rfl ?_
    refine O.known (t := 82) (c := true) rfl (by first | rfl | decide | (refine decide_eq_true ?_; exact ⟨rfl, rfl⟩)) ?_
    refine O.guard_t rfl rfl ?_
    refine O.ex (Ex.move rfl) rfl ?_
    refine O.guard_t rfl rfl ?_
    refine O.callF Try.call23 rfl rfl (CT.mono (lenP_ct (Holds.to (by assumption))) ?_)
    rintro _ w ⟨rfl, H⟩
    refine O.guard_t rfl rfl ?_
    refine O.ex (Ex.eqlI rfl rfl) rfl ?_
    refine O.ex (Ex.pick_t rfl rfl) rfl ?_
    refine O.ex (Ex.assign rfl) rfl ?_
    refine O.nil ?_
    refine hK17 _ _ _ ?_
    refine W.ret ?_
    try dsimp only [thenQ, blockQ]
    refine ⟨_, ⟨_, _, rfl, rfl, rfl⟩, ?_⟩
    exact ⟨by first | rfl | exact congrArg Value.bool (by decide), Holds.base_below (L := []) (Holds.to (by assumption))⟩
end Go.Proofs.Ytikdblejkmaloaa
