import Derived.Test.YtakmbbgnnbpkoaaUndo2
import Derived.Test.YtakmbbgnnbpkoaaGraph6
--ARR
--DEEP
namespace Go.Proofs.Ytakmbbgnnbpkoaa
open Go.Rr Go Gr
set_option linter.unusedVariables false
set_option linter.unusedSimpArgs false
theorem keyBest (x y x' y' : Int) (w : World) (d : Nat) : (Op.equalIn (d + 1 + 1 + 1) 173 (.agg #[.int .i64 x, .int .i64 y]) (.agg #[.int .i64 x', .int .i64 y'])).run Try.prog w = .ok (decide (x = x' ∧ y = y')) w := by
  rw [eqStruct (d + 2) Try.underlying173 Try.stoodInHeld173]
  by_cases h1 : x = x' <;> by_cases h2 : y = y' <;> simp [Op.eqFields, part, Try.isAgg3 w, run_equalIn_int w (d + 1) 3 .i64 .i64 _ _ Try.underlying3, h1, h2]
theorem neqBest (x y x' y' : Int) (w : World) : (binOp .neq 173 (.agg #[.int .i64 x, .int .i64 y]) (.agg #[.int .i64 x', .int .i64 y'])).run Try.prog w = .ok (.bool (decide (¬ (x = x' ∧ y = y')))) w := by
  have h := keyBest x y x' y' w 9997
  rw [run_neq_struct, show (Op.equalIn 10000 173 _ _).run Try.prog w = .ok (decide (x = x' ∧ y = y')) w from h]
  by_cases h : x = x' ∧ y = y' <;> simp [h]
theorem look_ct {w : World} {b c3 c4 g j : Nat} {n most : Int} {s : St} {a : Arc} {L : List HProp} (hg : GOk n most s) (H : Holds w (pt c3 (.cells #[.pointer (some ⟨b, 0, none⟩)] 83 (0, 0)) :: pt c4 (.cells (acs a) 31 (0, 0)) :: pt b (.cells #[.pointer (some ⟨g, 0, none⟩), .pointer (some ⟨j, 0, none⟩)] 143 (0, 0)) :: Gh g n most s :: L)) :
    CT Try.prog 120 [.pointer (some ⟨c3, 0, none⟩), .pointer (some ⟨c4, 0, none⟩)] w fun u w' => u = .agg #[.int .i64 (best s a.t a.h).1, .int .i64 (best s a.t a.h).2] ∧ Holds w' (pt c3 (.cells #[.pointer (some ⟨b, 0, none⟩)] 83 (0, 0)) :: pt c4 (.cells (acs a) 31 (0, 0)) :: pt b (.cells #[.pointer (some ⟨g, 0, none⟩), .pointer (some ⟨j, 0, none⟩)] 143 (0, 0)) :: Gh g n most s :: L) := by
  refine CT.enter (N := 20) Try.func120 rfl rfl rfl rfl ?_
  refine W.seq (fun K0 hK0 => ?_)
  refine W.region ?_
  refine O.allocP Try.zeroValue173 (fun b2 w H => ?_)
  refine O.nil ?_
  refine hK0 _ _ _ ?_
  refine W.seq (fun K1 hK1 => ?_)
  refine W.drawTo (pt c3 (.cells #[.pointer (some ⟨b, 0, none⟩)] 83 (0, 0)) :: pt c4 (.cells (acs a) 31 (0, 0)) :: pt b (.cells #[.pointer (some ⟨g, 0, none⟩), .pointer (some ⟨j, 0, none⟩)] 143 (0, 0)) :: []) (.take 0 (.take 1 (.take 2 (.take 3 (.take 4 (.take 5 (.take 6 (.take 7 (.one 8 (.take 9 (.take 10 (.take 11 (.take 12 (.take 13 .nil)))))))))))))) (mixed) (fun _ _ _ _ h => h) (by assumption) PP.auto (by decide +kernel) (fun w H => ?_)
  refine OQ.ex rfl (fun w H => (by first | exact Ex.loadP Try.isAgg83 rfl | exact Ex.loadQ Try.isAgg83 rfl | exact Ex.loadMh Try.isAgg83 rfl | exact Ex.loadR Try.isAgg83 rfl | exact Ex.loadIn1 Try.isAgg83 rfl (Holds.to (by assumption)) | exact Ex.loadM Try.isAgg83 rfl | exact Ex.loadVc Try.isAgg83 rfl)) rfl ?_
  refine OQ.ex rfl (fun w H => (by first | exact Ex.nilPtr rfl | exact Ex.nilFunc rfl | exact Ex.nilYield rfl)) rfl ?_
  refine OQ.ex rfl (fun w H => (by first | exact Ex.field0 fld143_0 rfl | exact Ex.field fld143_0 rfl | exact Ex.fieldS fld143_0 rfl)) rfl ?_
  refine OQ.ex rfl (fun w H => (by first | exact Ex.loadMh Try.isAgg24 rfl | exact Ex.loadP Try.isAgg24 rfl | exact Ex.loadM Try.isAgg24 rfl | exact Ex.loadIn1 Try.isAgg24 rfl (Holds.to (by assumption)) | exact Ex.loadVc Try.isAgg24 rfl | exact Ex.loadR Try.isAgg24 rfl | exact Ex.loadQ Try.isAgg24 rfl)) rfl ?_
  refine OQ.ex rfl (fun w H => (by first | exact Ex.field0 fld31_0 rfl | exact Ex.field fld31_0 rfl | exact Ex.fieldS fld31_0 rfl)) rfl ?_
  refine OQ.ex rfl (fun w H => (by first | exact Ex.loadMh Try.isAgg3 rfl | exact Ex.loadP Try.isAgg3 rfl | exact Ex.loadM Try.isAgg3 rfl | exact Ex.loadIn1 Try.isAgg3 rfl (Holds.to (by assumption)) | exact Ex.loadVc Try.isAgg3 rfl | exact Ex.loadR Try.isAgg3 rfl | exact Ex.loadQ Try.isAgg3 rfl)) rfl ?_
  refine OQ.ex rfl (fun w H => (by first | exact Ex.field0 fld31_1 rfl | exact Ex.field fld31_1 rfl | exact Ex.fieldS fld31_1 rfl)) rfl ?_
  refine OQ.ex rfl (fun w H => (by first | exact Ex.loadMh Try.isAgg3 rfl | exact Ex.loadP Try.isAgg3 rfl | exact Ex.loadM Try.isAgg3 rfl | exact Ex.loadIn1 Try.isAgg3 rfl (Holds.to (by assumption)) | exact Ex.loadVc Try.isAgg3 rfl | exact Ex.loadR Try.isAgg3 rfl | exact Ex.loadQ Try.isAgg3 rfl)) rfl ?_
  refine OQ.step rfl ?_
  refine O.callF Try.call19 rfl rfl (CT.mono (gbest_ct (g := g) hg (Holds.to (by assumption))) ?_)
  rintro _ w ⟨rfl, H⟩
  refine O.thenNil ⟨(by first | exact Holds.to (by assumption) | assumption), ?_⟩
  refine OQ.ex rfl (fun w H => (Ex.move rfl)) rfl ?_
  refine OQ.ex rfl (fun w H => (Ex.extract rfl rfl)) rfl ?_
  refine OQ.ex rfl (fun w H => (Ex.extract rfl rfl)) rfl ?_
  refine OQ.ex rfl (fun w H => (Ex.assign rfl)) rfl ?_
  refine OQ.ex rfl (fun w H => (Ex.assign rfl)) rfl ?_
  refine OQ.done ?_
  refine hK1 _ _ _ ?_
  refine W.seq (fun K2 hK2 => ?_)
  refine W.region ?_
  refine O.ex (Ex.move rfl) rfl ?_
  refine O.ex (Ex.move rfl) rfl ?_
  refine O.ex (Ex.build rfl (bld173_0_1 _ _ (by first | rfl | assumption) (by first | rfl | assumption))) rfl ?_
  first | refine O.storeAggP Try.sizeOf173 rfl rfl rfl rfl (fun w H => ?_) | refine O.storeAggN Try.sizeOf173 rfl rfl rfl (fun w H => ?_) rfl
  refine O.nil ?_
  refine hK2 _ _ _ ?_
  refine W.ret ?_
  try dsimp only [thenQ, blockQ, retQ]
  first | refine ⟨_, ⟨_, _, _, rfl, rfl, (by first | exact loadVar_mtx Try.isAgg173 Try.sizeOf173 | exact loadVar_agg Try.isAgg173 Try.sizeOf173), rfl⟩, ?_⟩ | (refine retD_mark ?_; intro w H; refine ⟨_, ⟨_, _, _, rfl, rfl, (by first | exact loadVar_mtx Try.isAgg173 Try.sizeOf173 | exact loadVar_agg Try.isAgg173 Try.sizeOf173), rfl⟩, ?_⟩) | (refine retD_mark2 ?_; intro w H; refine ⟨_, ⟨_, _, _, rfl, rfl, (by first | exact loadVar_mtx Try.isAgg173 Try.sizeOf173 | exact loadVar_agg Try.isAgg173 Try.sizeOf173), rfl⟩, ?_⟩)
  exact ⟨rfl, by first | assumption | exact Holds.to (by assumption)⟩
/-- Whether the best arc between an arc's ends is another one. -/
def tnd (s s' : St) (a : Arc) : Bool := decide (a.t ≠ a.h) && decide (¬ ((best s' a.t a.h).1 = (best s a.t a.h).1 ∧ (best s' a.t a.h).2 = (best s a.t a.h).2))
set_option maxHeartbeats 1000000 in
theorem turned_ct {w : World} {b g j : Nat} {n most : Int} {s s' : St} {a : Arc} {dov : Value} {R R' : List HProp} (hg : GOk n most s) (hg' : GOk n most s')
    (hdo : ∀ w Y, Holds w (pt b (.cells #[.pointer (some ⟨g, 0, none⟩), .pointer (some ⟨j, 0, none⟩)] 143 (0, 0)) :: Gh g n most s :: Y :: R) → VT Try.prog dov [] w fun _ w' => Holds w' (pt b (.cells #[.pointer (some ⟨g, 0, none⟩), .pointer (some ⟨j, 0, none⟩)] 143 (0, 0)) :: Gh g n most s' :: Y :: R')) (H : Holds w (pt b (.cells #[.pointer (some ⟨g, 0, none⟩), .pointer (some ⟨j, 0, none⟩)] 143 (0, 0)) :: Gh g n most s :: R)) :
    CT Try.prog 94 [.pointer (some ⟨b, 0, none⟩), a.val, dov] w fun u w' => u = .agg #[.int .i64 a.t, .int .i64 a.h, .bool (tnd s s' a)] ∧ Holds w' (pt b (.cells #[.pointer (some ⟨g, 0, none⟩), .pointer (some ⟨j, 0, none⟩)] 143 (0, 0)) :: Gh g n most s' :: R') := by
  refine CT.enter (N := 30) Try.func94 rfl rfl rfl rfl ?_
  refine W.seq (fun K0 hK0 => ?_)
  refine W.region ?_
  refine O.boxP rfl (fun b3 w H => ?_)
  refine O.boxP rfl (fun b4 w H => ?_)
  refine O.allocP Try.zeroValue93 (fun b6 w H => ?_)
  have H : Holds w (pt b6 (.cells #[.int .i64 0, .int .i64 0, .bool false] 93 (0, 0)) :: pt b4 (.cells (acs a) 31 (0, 0)) :: pt b3 (.cells #[.pointer (some ⟨b, 0, none⟩)] 83 (0, 0)) :: pt b (.cells #[.pointer (some ⟨g, 0, none⟩), .pointer (some ⟨j, 0, none⟩)] 143 (0, 0)) :: Gh g n most s :: R) := H
  refine O.nil ?_
  refine hK0 _ _ _ ?_
  refine W.seq (fun K1 hK1 => ?_)
  refine W.region ?_
  refine O.ex (Ex.makeFunc rfl rfl) rfl ?_
  refine O.ex (Ex.assign rfl) rfl ?_
  refine O.nil ?_
  refine hK1 _ _ _ ?_
  refine W.seq (fun K2 hK2 => ?_)
  refine W.region ?_
  refine O.ex (Ex.move rfl) rfl ?_
  refine O.callVT rfl rfl rfl (VT.mono (VT.fn Try.call120 (look_ct (b := b) (g := g) (j := j) (c3 := b3) (c4 := b4) (a := a) hg (Holds.to (by assumption)))) ?_)
  rintro _ w ⟨rfl, H⟩
  refine O.allocP Try.zeroValue173 (fun b8 w H => ?_)
  first | refine O.storeAggP Try.sizeOf173 rfl rfl rfl rfl (fun w H => ?_) | refine O.storeAggN Try.sizeOf173 rfl rfl rfl (fun w H => ?_) rfl
  have H : Holds w (pt b3 (.cells #[.pointer (some ⟨b, 0, none⟩)] 83 (0, 0)) :: pt b4 (.cells (acs a) 31 (0, 0)) :: pt b6 (.cells #[.int .i64 0, .int .i64 0, .bool false] 93 (0, 0)) :: pt b8 (.cells #[.int .i64 (best s a.t a.h).1, .int .i64 (best s a.t a.h).2] 173 (0, 0)) :: pt b (.cells #[.pointer (some ⟨g, 0, none⟩), .pointer (some ⟨j, 0, none⟩)] 143 (0, 0)) :: Gh g n most s :: R) := Holds.to H
  have H : Holds w (star [pt b3 (.cells #[.pointer (some ⟨b, 0, none⟩)] 83 (0, 0)), pt b4 (.cells (acs a) 31 (0, 0)), pt b6 (.cells #[.int .i64 0, .int .i64 0, .bool false] 93 (0, 0)), pt b8 (.cells #[.int .i64 (best s a.t a.h).1, .int .i64 (best s a.t a.h).2] 173 (0, 0))] :: pt b (.cells #[.pointer (some ⟨g, 0, none⟩), .pointer (some ⟨j, 0, none⟩)] 143 (0, 0)) :: Gh g n most s :: R) := Holds.star.2 H
  refine O.nil ?_
  refine hK2 _ _ _ ?_
  refine W.seq (fun K3 hK3 => ?_)
  refine W.region ?_
  refine O.ex (Ex.move rfl) rfl ?_
  refine O.callVT rfl rfl rfl (VT.mono (hdo w (star [pt b3 (.cells #[.pointer (some ⟨b, 0, none⟩)] 83 (0, 0)), pt b4 (.cells (acs a) 31 (0, 0)), pt b6 (.cells #[.int .i64 0, .int .i64 0, .bool false] 93 (0, 0)), pt b8 (.cells #[.int .i64 (best s a.t a.h).1, .int .i64 (best s a.t a.h).2] 173 (0, 0))]) (Holds.to H)) ?_)
  rintro _ w H
  have H : Holds w (pt b3 (.cells #[.pointer (some ⟨b, 0, none⟩)] 83 (0, 0)) :: pt b4 (.cells (acs a) 31 (0, 0)) :: pt b6 (.cells #[.int .i64 0, .int .i64 0, .bool false] 93 (0, 0)) :: pt b8 (.cells #[.int .i64 (best s a.t a.h).1, .int .i64 (best s a.t a.h).2] 173 (0, 0)) :: pt b (.cells #[.pointer (some ⟨g, 0, none⟩), .pointer (some ⟨j, 0, none⟩)] 143 (0, 0)) :: Gh g n most s' :: R') := Holds.star.1 (Holds.to (M := star [pt b3 (.cells #[.pointer (some ⟨b, 0, none⟩)] 83 (0, 0)), pt b4 (.cells (acs a) 31 (0, 0)), pt b6 (.cells #[.int .i64 0, .int .i64 0, .bool false] 93 (0, 0)), pt b8 (.cells #[.int .i64 (best s a.t a.h).1, .int .i64 (best s a.t a.h).2] 173 (0, 0))] :: pt b (.cells #[.pointer (some ⟨g, 0, none⟩), .pointer (some ⟨j, 0, none⟩)] 143 (0, 0)) :: Gh g n most s' :: R') H)
  refine O.nil ?_
  refine hK3 _ _ _ ?_
  refine W.seq (fun K4 hK4 => ?_)
  refine W.drawTo (pt b4 (.cells (acs a) 31 (0, 0)) :: pt b8 (.cells #[.int .i64 (best s a.t a.h).1, .int .i64 (best s a.t a.h).2] 173 (0, 0)) :: []) (.take 0 (.take 1 (.take 2 (.take 3 (.take 4 (.take 5 (.take 6 (.take 7 (.take 8 (.take 9 (.take 10 (.take 12 (.one 11 (.take 13 (.take 14 (.take 15 (.one 16 .nil))))))))))))))))) (mixed) (fun _ _ _ _ h => h) (by assumption) PP.auto (by decide +kernel) (fun w H => ?_)
  refine OQ.ex rfl (fun w H => (by first | exact Ex.field0 fld31_0 rfl | exact Ex.field fld31_0 rfl | exact Ex.fieldS fld31_0 rfl)) rfl ?_
  refine OQ.ex rfl (fun w H => (by first | exact Ex.loadMh Try.isAgg3 rfl | exact Ex.loadP Try.isAgg3 rfl | exact Ex.loadM Try.isAgg3 rfl | exact Ex.loadIn1 Try.isAgg3 rfl (Holds.to (by assumption)) | exact Ex.loadVc Try.isAgg3 rfl | exact Ex.loadR Try.isAgg3 rfl | exact Ex.loadQ Try.isAgg3 rfl)) rfl ?_
  refine OQ.ex rfl (fun w H => (by first | exact Ex.field0 fld31_1 rfl | exact Ex.field fld31_1 rfl | exact Ex.fieldS fld31_1 rfl)) rfl ?_
  refine OQ.ex rfl (fun w H => (by first | exact Ex.loadMh Try.isAgg3 rfl | exact Ex.loadP Try.isAgg3 rfl | exact Ex.loadM Try.isAgg3 rfl | exact Ex.loadIn1 Try.isAgg3 rfl (Holds.to (by assumption)) | exact Ex.loadVc Try.isAgg3 rfl | exact Ex.loadR Try.isAgg3 rfl | exact Ex.loadQ Try.isAgg3 rfl)) rfl ?_
  refine OQ.ex rfl (fun w H => (by first | exact Ex.field0 fld31_0 rfl | exact Ex.field fld31_0 rfl | exact Ex.fieldS fld31_0 rfl)) rfl ?_
  refine OQ.ex rfl (fun w H => (by first | exact Ex.loadMh Try.isAgg3 rfl | exact Ex.loadP Try.isAgg3 rfl | exact Ex.loadM Try.isAgg3 rfl | exact Ex.loadIn1 Try.isAgg3 rfl (Holds.to (by assumption)) | exact Ex.loadVc Try.isAgg3 rfl | exact Ex.loadR Try.isAgg3 rfl | exact Ex.loadQ Try.isAgg3 rfl)) rfl ?_
  refine OQ.ex rfl (fun w H => (by first | exact Ex.field0 fld31_1 rfl | exact Ex.field fld31_1 rfl | exact Ex.fieldS fld31_1 rfl)) rfl ?_
  refine OQ.ex rfl (fun w H => (by first | exact Ex.loadMh Try.isAgg3 rfl | exact Ex.loadP Try.isAgg3 rfl | exact Ex.loadM Try.isAgg3 rfl | exact Ex.loadIn1 Try.isAgg3 rfl (Holds.to (by assumption)) | exact Ex.loadVc Try.isAgg3 rfl | exact Ex.loadR Try.isAgg3 rfl | exact Ex.loadQ Try.isAgg3 rfl)) rfl ?_
  refine OQ.ex rfl (fun w H => (Ex.neqI rfl rfl)) rfl ?_
  refine OQ.ex rfl (fun w H => (Ex.move rfl)) rfl ?_
  first | refine OQ.split_p (t := 23) rfl (fun hne => ?_) (fun heq => ?_) | refine OQ.split (t := 23) rfl (fun hne => ?_) (fun heq => ?_)
  · refine OQ.exT rfl rfl rfl (fun w H => (Ex.move rfl)) rfl ?_
    refine OQ.exT rfl rfl rfl (fun w H => (by first | exact Ex.loadAggP Try.isAgg173 Try.sizeOf173 rfl | exact Ex.loadAggN Try.isAgg173 Try.sizeOf173 rfl | exact Ex.loadIn Try.isAgg173 Try.sizeOf173 rfl (Holds.to (by assumption)))) rfl ?_
    refine OQ.step rfl ?_
    refine O.guard_t rfl rfl ?_
    refine O.callVT rfl rfl rfl (VT.mono (VT.fn Try.call120 (look_ct (b := b) (g := g) (j := j) (c3 := b3) (c4 := b4) (a := a) hg' (Holds.to (by assumption)))) ?_)
    rintro _ w ⟨rfl, H⟩
    refine O.thenNil ⟨(by first | exact Holds.to (by assumption) | assumption), ?_⟩
    refine OQ.exT rfl rfl rfl (fun w H => (Ex.neqAgg rfl rfl Try.eqGuardType173 (neqBest _ _ _ _ _))) rfl ?_
    refine OQ.ex rfl (fun w H => (Ex.pick_t rfl rfl)) rfl ?_
    refine OQ.ex rfl (fun w H => (Ex.build rfl (bld93_0_1_2 _ _ _ (by first | rfl | assumption) (by first | rfl | assumption) (by first | rfl | assumption)))) rfl ?_
    refine OQ.last rfl (by decide +kernel) ?_
    first | refine O.storeAggP Try.sizeOf93 rfl rfl rfl rfl (fun w H => ?_) | refine O.storeAggN Try.sizeOf93 rfl rfl rfl (fun w H => ?_) rfl
    refine O.nil ?_
    refine hK4 _ _ _ ?_
    refine W.ret ?_
    try dsimp only [thenQ, blockQ, retQ]
    first | refine ⟨_, ⟨_, _, _, rfl, rfl, (by first | exact loadVar_mtx Try.isAgg93 Try.sizeOf93 | exact loadVar_agg Try.isAgg93 Try.sizeOf93), rfl⟩, ?_⟩ | (refine retD_mark ?_; intro w H; refine ⟨_, ⟨_, _, _, rfl, rfl, (by first | exact loadVar_mtx Try.isAgg93 Try.sizeOf93 | exact loadVar_agg Try.isAgg93 Try.sizeOf93), rfl⟩, ?_⟩) | (refine retD_mark2 ?_; intro w H; refine ⟨_, ⟨_, _, _, rfl, rfl, (by first | exact loadVar_mtx Try.isAgg93 Try.sizeOf93 | exact loadVar_agg Try.isAgg93 Try.sizeOf93), rfl⟩, ?_⟩)
    refine ⟨?_, Holds.to (by assumption)⟩
    unfold tnd
    first
    | (rw [decide_eq_true hne, Bool.true_and]; rfl)
    | (rw [decide_eq_false heq, Bool.false_and]; rfl)
  · refine OQ.exF rfl rfl rfl rfl rfl ?_
    refine OQ.exF rfl rfl rfl rfl rfl ?_
    refine OQ.step rfl ?_
    refine O.guard_f rfl rfl rfl rfl ?_
    refine O.thenNil ⟨(by first | exact Holds.to (by assumption) | assumption), ?_⟩
    refine OQ.exF rfl rfl rfl rfl rfl ?_
    refine OQ.ex rfl (fun w H => (Ex.pick_f rfl rfl)) rfl ?_
    refine OQ.ex rfl (fun w H => (Ex.build rfl (bld93_0_1_2 _ _ _ (by first | rfl | assumption) (by first | rfl | assumption) (by first | rfl | assumption)))) rfl ?_
    refine OQ.last rfl (by decide +kernel) ?_
    first | refine O.storeAggP Try.sizeOf93 rfl rfl rfl rfl (fun w H => ?_) | refine O.storeAggN Try.sizeOf93 rfl rfl rfl (fun w H => ?_) rfl
    refine O.nil ?_
    refine hK4 _ _ _ ?_
    refine W.ret ?_
    try dsimp only [thenQ, blockQ, retQ]
    first | refine ⟨_, ⟨_, _, _, rfl, rfl, (by first | exact loadVar_mtx Try.isAgg93 Try.sizeOf93 | exact loadVar_agg Try.isAgg93 Try.sizeOf93), rfl⟩, ?_⟩ | (refine retD_mark ?_; intro w H; refine ⟨_, ⟨_, _, _, rfl, rfl, (by first | exact loadVar_mtx Try.isAgg93 Try.sizeOf93 | exact loadVar_agg Try.isAgg93 Try.sizeOf93), rfl⟩, ?_⟩) | (refine retD_mark2 ?_; intro w H; refine ⟨_, ⟨_, _, _, rfl, rfl, (by first | exact loadVar_mtx Try.isAgg93 Try.sizeOf93 | exact loadVar_agg Try.isAgg93 Try.sizeOf93), rfl⟩, ?_⟩)
    refine ⟨?_, Holds.to (by assumption)⟩
    unfold tnd
    first
    | (rw [decide_eq_true hne, Bool.true_and]; rfl)
    | (rw [decide_eq_false heq, Bool.false_and]; rfl)
end Go.Proofs.Ytakmbbgnnbpkoaa
