import Derived.Test.YtikdblejkmaloaaRing06
namespace Go.Proofs.Ytikdblejkmaloaa
open Go.Rr Go
set_option linter.unusedVariables false
def Rf (r : Nat) (k : Int) (xs : List Int) : HProp := hex fun vl => star [pt r (.cells #[.int .i64 k, vl] 63 (0, 0)), arr 3 (Value.int .i64) vl xs]
theorem rf_open {w : World} {r : Nat} {k : Int} {xs : List Int} {L : List HProp} : Holds w (Rf r k xs :: L) ↔ ∃ vl, Holds w (pt r (.cells #[.int .i64 k, vl] 63 (0, 0)) :: arr 3 (Value.int .i64) vl xs :: L) := by
  unfold Rf
  simp only [Holds.hex, Holds.star, List.cons_append, List.nil_append]
theorem getLastD_get (xs : List Int) (h : xs.length ≠ 0) : xs.getD (xs.length - 1) default = xs.getLastD 0 := by
  obtain ⟨ys, x, rfl⟩ : ∃ ys x, xs = ys ++ [x] := ⟨xs.dropLast, xs.getLast (by rintro rfl; simp at h), (List.dropLast_concat_getLast _).symm⟩
  simp [List.getD_eq_getElem?_getD]
theorem rfTop_ct {w : World} {r : Nat} {k : Int} {xs : List Int} {L : List HProp} (H : Holds w (Rf r k xs :: L)) (hl : xs.length ≤ 1000) :
    CT Try.prog 34 [.pointer (some ⟨r, 0, none⟩)] w fun u w' => u = .tuple #[.int .i64 (xs.getLastD 0), .bool (decide (xs.length ≠ 0))] ∧ Holds w' (Rf r k xs :: L) := by
  obtain ⟨vl, H⟩ := rf_open.1 H
  refine CT.enter (N := 22) Try.func34 rfl rfl rfl rfl ?_
  refine W.seq (fun K0 hK0 => ?_)
  refine W.region ?_
  refine O.ex (Ex.assign rfl) rfl ?_
  refine O.ex (Ex.assign rfl) rfl ?_
  refine O.nil ?_
  refine hK0 _ _ _ ?_
  refine W.seq (fun K1 hK1 => ?_)
  refine W.seq (fun K2 hK2 => ?_)
  refine W.region ?_
  refine O.ex (Ex.move rfl) rfl ?_
  refine O.ex (by first | exact Ex.nilPtr rfl | exact Ex.nilFunc rfl | exact Ex.nilYield rfl) rfl ?_
  refine O.ex (by first | exact Ex.field0 fld63_1 rfl | exact Ex.field fld63_1 rfl | exact Ex.fieldS fld63_1 rfl) rfl ?_
  refine O.ex (by first | exact Ex.loadP Try.isAgg52 rfl | exact Ex.loadR Try.isAgg52 rfl | exact Ex.loadIn1 Try.isAgg52 rfl (Holds.to (by assumption))) rfl ?_
  refine O.ex (by first | exact Ex.lenR Try.runUnderlying52 rfl | exact Ex.lenIn Try.runUnderlying52 rfl | exact Ex.lenL Try.runUnderlying52 rfl | exact Ex.len rfl Try.runUnderlying52 rfl) rfl ?_
  refine O.ex (Ex.eqlI rfl rfl) rfl ?_
  refine O.nil ?_
  refine hK2 _ _ _ ?_
  first | refine W.cond_p rfl (fun hz => ?_) (fun hnz => ?_) | refine W.cond_b rfl (fun hz => ?_) (fun hnz => ?_)
  · refine W.seq (fun K3 hK3 => ?_)
    refine W.region ?_
    refine O.ex (Ex.assign rfl) rfl ?_
    refine O.ex (Ex.assign rfl) rfl ?_
    refine O.nil ?_
    refine hK3 _ _ _ ?_
    refine W.ret ?_
    try dsimp only [thenQ, blockQ, retQ]
    first | refine ⟨_, ⟨_, _, rfl, rfl, _, _, rfl, rfl, rfl⟩, ?_⟩ | (refine retD_mark ?_; intro w H; refine ⟨_, ⟨_, _, rfl, rfl, _, _, rfl, rfl, rfl⟩, ?_⟩) | (refine retD_mark2 ?_; intro w H; refine ⟨_, ⟨_, _, rfl, rfl, _, _, rfl, rfl, rfl⟩, ?_⟩)
    first
    | (obtain rfl : xs = [] := List.length_eq_zero_iff.1 (by omega)
       exact ⟨rfl, rf_open.2 ⟨vl, Holds.to (by assumption)⟩⟩)
    | (refine ⟨?_, rf_open.2 ⟨vl, Holds.to (by assumption)⟩⟩
       have e1 := getLastD_get xs (by omega)
       rw [decide_eq_true (show xs.length ≠ 0 by omega), ← e1, show xs.length - 1 = ((xs.length : Int) - 1).toNat from by omega]
       rfl)
  · refine W.skip ?_
    refine hK1 _ _ _ ?_
    refine W.seq (fun K4 hK4 => ?_)
    refine W.drawTo _ (.take 0 (.take 1 (.take 2 (.take 3 (.take 4 (.take 5 (.take 6 (.take 7 (.take 8 (.take 9 (.take 10 (.take 11 (.take 12 (.take 13 .nil)))))))))))))) (mixed) (fun _ _ _ _ h => h) (by assumption) (PP.refl _) (by decide +kernel) (fun w H => ?_)
    refine OQ.ex rfl (fun w H => (Ex.move rfl)) rfl ?_
    refine OQ.ex rfl (fun w H => (by first | exact Ex.nilPtr rfl | exact Ex.nilFunc rfl | exact Ex.nilYield rfl)) rfl ?_
    refine OQ.ex rfl (fun w H => (by first | exact Ex.field0 fld63_1 rfl | exact Ex.field fld63_1 rfl | exact Ex.fieldS fld63_1 rfl)) rfl ?_
    refine OQ.ex rfl (fun w H => (by first | exact Ex.loadP Try.isAgg52 rfl | exact Ex.loadR Try.isAgg52 rfl | exact Ex.loadIn1 Try.isAgg52 rfl (Holds.to (by assumption)))) rfl ?_
    refine OQ.ex rfl (fun w H => (Ex.move rfl)) rfl ?_
    refine OQ.ex rfl (fun w H => (by first | exact Ex.nilPtr rfl | exact Ex.nilFunc rfl | exact Ex.nilYield rfl)) rfl ?_
    refine OQ.ex rfl (fun w H => (by first | exact Ex.field0 fld63_1 rfl | exact Ex.field fld63_1 rfl | exact Ex.fieldS fld63_1 rfl)) rfl ?_
    refine OQ.ex rfl (fun w H => (by first | exact Ex.loadP Try.isAgg52 rfl | exact Ex.loadR Try.isAgg52 rfl | exact Ex.loadIn1 Try.isAgg52 rfl (Holds.to (by assumption)))) rfl ?_
    refine OQ.ex rfl (fun w H => (by first | exact Ex.lenR Try.runUnderlying52 rfl | exact Ex.lenIn Try.runUnderlying52 rfl | exact Ex.lenL Try.runUnderlying52 rfl | exact Ex.len rfl Try.runUnderlying52 rfl)) rfl ?_
    refine OQ.ex rfl (fun w H => (by first | exact Ex.subI rfl rfl | exact Ex.sub rfl rfl rfl)) rfl ?_
    refine OQ.ex rfl (fun w H => (by first | exact Ex.idxR Try.runUnderlying52 Try.sizeOf3 rfl rfl | exact Ex.idxIn Try.runUnderlying52 Try.sizeOf3 rfl rfl | exact Ex.idxS Try.runUnderlying52 Try.sizeOf3 rfl rfl | exact Ex.idx Try.runUnderlying52 Try.sizeOf3 rfl rfl (by omega) (by omega))) rfl ?_
    refine OQ.ex rfl (fun w H => (by first | exact Ex.loadP Try.isAgg3 rfl | exact Ex.loadR Try.isAgg3 rfl | exact Ex.loadIn1 Try.isAgg3 rfl (Holds.to (by assumption)))) rfl ?_
    refine OQ.ex rfl (fun w H => (Ex.assign rfl)) rfl ?_
    refine OQ.ex rfl (fun w H => (Ex.assign rfl)) rfl ?_
    refine OQ.done ?_
    refine hK4 _ _ _ ?_
    refine W.ret ?_
    try dsimp only [thenQ, blockQ, retQ]
    first | refine ⟨_, ⟨_, _, rfl, rfl, _, _, rfl, rfl, rfl⟩, ?_⟩ | (refine retD_mark ?_; intro w H; refine ⟨_, ⟨_, _, rfl, rfl, _, _, rfl, rfl, rfl⟩, ?_⟩) | (refine retD_mark2 ?_; intro w H; refine ⟨_, ⟨_, _, rfl, rfl, _, _, rfl, rfl, rfl⟩, ?_⟩)
    first
    | (obtain rfl : xs = [] := List.length_eq_zero_iff.1 (by omega)
       exact ⟨rfl, rf_open.2 ⟨vl, Holds.to (by assumption)⟩⟩)
    | (refine ⟨?_, rf_open.2 ⟨vl, Holds.to (by assumption)⟩⟩
       have e1 := getLastD_get xs (by omega)
       rw [decide_eq_true (show xs.length ≠ 0 by omega), ← e1, show xs.length - 1 = ((xs.length : Int) - 1).toNat from by omega]
       rfl)
theorem rfPop_ct {w : World} {r : Nat} {k : Int} {xs : List Int} {L : List HProp} (H : Holds w (Rf r k xs :: L)) (hl : xs.length ≤ 1000) :
    CT Try.prog 30 [.pointer (some ⟨r, 0, none⟩)] w fun u w' => u = .tuple #[.int .i64 (xs.getLastD 0), .bool (decide (xs.length ≠ 0))] ∧ Holds w' (Rf r k xs.dropLast :: L) := by
  refine CT.enter (N := 28) Try.func30 rfl rfl rfl rfl ?_
  refine W.seq (fun K0 hK0 => ?_)
  refine W.region ?_
  refine O.ex (Ex.assign rfl) rfl ?_
  refine O.ex (Ex.assign rfl) rfl ?_
  refine O.nil ?_
  refine hK0 _ _ _ ?_
  refine W.seq (fun K1 hK1 => ?_)
  refine W.region ?_
  refine O.ex (Ex.move rfl) rfl ?_
  refine O.callF Try.call34 rfl rfl (CT.mono (rfTop_ct (by assumption) hl) ?_)
  rintro _ w ⟨rfl, H⟩
  refine O.ex (Ex.move rfl) rfl ?_
  refine O.ex (Ex.extract rfl rfl) rfl ?_
  refine O.ex (Ex.extract rfl rfl) rfl ?_
  refine O.ex (Ex.assign rfl) rfl ?_
  refine O.ex (Ex.assign rfl) rfl ?_
  refine O.nil ?_
  refine hK1 _ _ _ ?_
  refine W.seq (fun K2 hK2 => ?_)
  refine W.seq (fun K3 hK3 => ?_)
  refine W.region ?_
  refine O.ex (Ex.move rfl) rfl ?_
  refine O.nil ?_
  refine hK3 _ _ _ ?_
  first | refine W.cond_p rfl (fun hok => ?_) (fun hno => ?_) | refine W.cond_b rfl (fun hok => ?_) (fun hno => ?_)
  · obtain ⟨vl, H⟩ := rf_open.1 (Holds.to (by assumption))
    refine W.drawTo (arr 3 (Value.int .i64) vl _ :: []) (.take 0 (.take 1 (.take 2 (.take 3 (.take 5 (.take 6 (.take 7 (.two 4 8 (.one 8 (.take 9 (.take 10 (.take 11 (.take 12 (.take 13 (.one 14 .nil))))))) (.take 9 (.take 10 (.one 4 (.take 11 (.take 12 (.take 13 (.one 14 .nil))))))))))))))) (mixed) (fun _ _ _ _ h => h) (by assumption) PP.auto (by decide +kernel) (fun w H => ?_)
    refine OQ.ex rfl (fun w H => (Ex.move rfl)) rfl ?_
    refine OQ.ex rfl (fun w H => (Ex.move rfl)) rfl ?_
    refine OQ.ex rfl (fun w H => (by first | exact Ex.nilPtr rfl | exact Ex.nilFunc rfl | exact Ex.nilYield rfl)) rfl ?_
    refine OQ.ex rfl (fun w H => (by first | exact Ex.field0 fld63_1 rfl | exact Ex.field fld63_1 rfl | exact Ex.fieldS fld63_1 rfl)) rfl ?_
    refine OQ.ex rfl (fun w H => (Ex.move rfl)) rfl ?_
    refine OQ.ex rfl (fun w H => (by first | exact Ex.nilPtr rfl | exact Ex.nilFunc rfl | exact Ex.nilYield rfl)) rfl ?_
    refine OQ.ex rfl (fun w H => (by first | exact Ex.field0 fld63_1 rfl | exact Ex.field fld63_1 rfl | exact Ex.fieldS fld63_1 rfl)) rfl ?_
    refine OQ.two rfl rfl ?_ ?_
    · refine O.ex (by first | exact Ex.loadP Try.isAgg52 rfl | exact Ex.loadR Try.isAgg52 rfl | exact Ex.loadIn1 Try.isAgg52 rfl (Holds.to (by assumption))) rfl ?_
      refine O.thenNil ⟨(by first | exact Holds.to (by assumption) | assumption), ?_⟩
      refine OQ.step rfl ?_
      refine O.ex (by first | exact Ex.loadP Try.isAgg52 rfl | exact Ex.loadR Try.isAgg52 rfl | exact Ex.loadIn1 Try.isAgg52 rfl (Holds.to (by assumption))) rfl ?_
      refine O.thenNil ⟨(by first | exact Holds.to (by assumption) | assumption), ?_⟩
      refine OQ.ex rfl (fun w H => (by first | exact Ex.lenR Try.runUnderlying52 rfl | exact Ex.lenIn Try.runUnderlying52 rfl | exact Ex.lenL Try.runUnderlying52 rfl | exact Ex.len rfl Try.runUnderlying52 rfl)) rfl ?_
      refine OQ.ex rfl (fun w H => (by first | exact Ex.subI rfl rfl | exact Ex.sub rfl rfl rfl)) rfl ?_
      refine OQ.ex rfl (fun w H => (Ex.sliceHi Try.runUnderlying52 Try.sizeOf3 rfl rfl)) rfl ?_
      refine OQ.ex rfl (fun w H => (by first | exact Ex.nilPtr rfl | exact Ex.nilFunc rfl | exact Ex.nilYield rfl)) rfl ?_
      refine OQ.ex rfl (fun w H => (by first | exact Ex.field0 fld63_1 rfl | exact Ex.field fld63_1 rfl | exact Ex.fieldS fld63_1 rfl)) rfl ?_
      refine OQ.step rfl ?_
      have ho : (hiV vl ((xs.length : Int) - 1).toNat).oneCell' = true := arr_hi_one (T := 3) (e := Value.int .i64) (xs := xs) (Holds.to (by assumption)) _
      first | refine O.storeP Try.sizeOf52 rfl rfl (fun w H => ?_) | refine O.storeR Try.sizeOf52 rfl rfl (fun w H => ?_)
      refine O.thenNil ⟨(by first | exact Holds.to (by assumption) | assumption), ?_⟩
      refine OQ.done ?_
      refine hK2 _ _ _ ?_
      refine W.seq (fun K4 hK4 => ?_)
      refine W.region ?_
      refine O.ex (Ex.move rfl) rfl ?_
      refine O.ex (Ex.move rfl) rfl ?_
      refine O.ex (Ex.assign rfl) rfl ?_
      refine O.ex (Ex.assign rfl) rfl ?_
      refine O.nil ?_
      refine hK4 _ _ _ ?_
      refine W.ret ?_
      try dsimp only [thenQ, blockQ, retQ]
      first | refine ⟨_, ⟨_, _, rfl, rfl, _, _, rfl, rfl, rfl⟩, ?_⟩ | (refine retD_mark ?_; intro w H; refine ⟨_, ⟨_, _, rfl, rfl, _, _, rfl, rfl, rfl⟩, ?_⟩) | (refine retD_mark2 ?_; intro w H; refine ⟨_, ⟨_, _, rfl, rfl, _, _, rfl, rfl, rfl⟩, ?_⟩)
      first
      | (obtain rfl : xs = [] := List.length_eq_zero_iff.1 (by omega)
         exact ⟨rfl, by assumption⟩)
      | (refine ⟨rfl, rf_open.2 ⟨hiV vl ((xs.length : Int) - 1).toNat, ?_⟩⟩
         have H2 := arr_take (hi := ((xs.length : Int) - 1).toNat) (T := 3) (e := Value.int .i64) (v := vl) (xs := xs) (Holds.to (by assumption)) (by omega)
         rw [List.dropLast_eq_take, show xs.length - 1 = ((xs.length : Int) - 1).toNat from by omega]
         exact Holds.to H2)
    · refine O.ex (by first | exact Ex.loadP Try.isAgg52 rfl | exact Ex.loadR Try.isAgg52 rfl | exact Ex.loadIn1 Try.isAgg52 rfl (Holds.to (by assumption))) rfl ?_
      refine O.thenNil ⟨(by first | exact Holds.to (by assumption) | assumption), ?_⟩
      refine OQ.ex rfl (fun w H => (by first | exact Ex.lenR Try.runUnderlying52 rfl | exact Ex.lenIn Try.runUnderlying52 rfl | exact Ex.lenL Try.runUnderlying52 rfl | exact Ex.len rfl Try.runUnderlying52 rfl)) rfl ?_
      refine OQ.ex rfl (fun w H => (by first | exact Ex.subI rfl rfl | exact Ex.sub rfl rfl rfl)) rfl ?_
      refine OQ.step rfl ?_
      refine O.ex (by first | exact Ex.loadP Try.isAgg52 rfl | exact Ex.loadR Try.isAgg52 rfl | exact Ex.loadIn1 Try.isAgg52 rfl (Holds.to (by assumption))) rfl ?_
      refine O.thenNil ⟨(by first | exact Holds.to (by assumption) | assumption), ?_⟩
      refine OQ.ex rfl (fun w H => (Ex.sliceHi Try.runUnderlying52 Try.sizeOf3 rfl rfl)) rfl ?_
      refine OQ.ex rfl (fun w H => (by first | exact Ex.nilPtr rfl | exact Ex.nilFunc rfl | exact Ex.nilYield rfl)) rfl ?_
      refine OQ.ex rfl (fun w H => (by first | exact Ex.field0 fld63_1 rfl | exact Ex.field fld63_1 rfl | exact Ex.fieldS fld63_1 rfl)) rfl ?_
      refine OQ.step rfl ?_
      have ho : (hiV vl ((xs.length : Int) - 1).toNat).oneCell' = true := arr_hi_one (T := 3) (e := Value.int .i64) (xs := xs) (Holds.to (by assumption)) _
      first | refine O.storeP Try.sizeOf52 rfl rfl (fun w H => ?_) | refine O.storeR Try.sizeOf52 rfl rfl (fun w H => ?_)
      refine O.thenNil ⟨(by first | exact Holds.to (by assumption) | assumption), ?_⟩
      refine OQ.done ?_
      refine hK2 _ _ _ ?_
      refine W.seq (fun K5 hK5 => ?_)
      refine W.region ?_
      refine O.ex (Ex.move rfl) rfl ?_
      refine O.ex (Ex.move rfl) rfl ?_
      refine O.ex (Ex.assign rfl) rfl ?_
      refine O.ex (Ex.assign rfl) rfl ?_
      refine O.nil ?_
      refine hK5 _ _ _ ?_
      refine W.ret ?_
      try dsimp only [thenQ, blockQ, retQ]
      first | refine ⟨_, ⟨_, _, rfl, rfl, _, _, rfl, rfl, rfl⟩, ?_⟩ | (refine retD_mark ?_; intro w H; refine ⟨_, ⟨_, _, rfl, rfl, _, _, rfl, rfl, rfl⟩, ?_⟩) | (refine retD_mark2 ?_; intro w H; refine ⟨_, ⟨_, _, rfl, rfl, _, _, rfl, rfl, rfl⟩, ?_⟩)
      first
      | (obtain rfl : xs = [] := List.length_eq_zero_iff.1 (by omega)
         exact ⟨rfl, by assumption⟩)
      | (refine ⟨rfl, rf_open.2 ⟨hiV vl ((xs.length : Int) - 1).toNat, ?_⟩⟩
         have H2 := arr_take (hi := ((xs.length : Int) - 1).toNat) (T := 3) (e := Value.int .i64) (v := vl) (xs := xs) (Holds.to (by assumption)) (by omega)
         rw [List.dropLast_eq_take, show xs.length - 1 = ((xs.length : Int) - 1).toNat from by omega]
         exact Holds.to H2)
  · refine W.skip ?_
    refine hK2 _ _ _ ?_
    refine W.seq (fun K6 hK6 => ?_)
    refine W.region ?_
    refine O.ex (Ex.move rfl) rfl ?_
    refine O.ex (Ex.move rfl) rfl ?_
    refine O.ex (Ex.assign rfl) rfl ?_
    refine O.ex (Ex.assign rfl) rfl ?_
    refine O.nil ?_
    refine hK6 _ _ _ ?_
    refine W.ret ?_
    try dsimp only [thenQ, blockQ, retQ]
    first | refine ⟨_, ⟨_, _, rfl, rfl, _, _, rfl, rfl, rfl⟩, ?_⟩ | (refine retD_mark ?_; intro w H; refine ⟨_, ⟨_, _, rfl, rfl, _, _, rfl, rfl, rfl⟩, ?_⟩) | (refine retD_mark2 ?_; intro w H; refine ⟨_, ⟨_, _, rfl, rfl, _, _, rfl, rfl, rfl⟩, ?_⟩)
    first
    | (obtain rfl : xs = [] := List.length_eq_zero_iff.1 (by omega)
       exact ⟨rfl, by assumption⟩)
    | (refine ⟨rfl, rf_open.2 ⟨hiV vl ((xs.length : Int) - 1).toNat, ?_⟩⟩
       have H2 := arr_take (hi := ((xs.length : Int) - 1).toNat) (T := 3) (e := Value.int .i64) (v := vl) (xs := xs) (Holds.to (by assumption)) (by omega)
       rw [List.dropLast_eq_take, show xs.length - 1 = ((xs.length : Int) - 1).toNat from by omega]
       exact Holds.to H2)
theorem rfPush_ct {w : World} {r k : Nat} {xs : List Int} {v : Int} {L : List HProp} (H : Holds w (Rf r k xs :: L)) (hl : xs.length ≤ k) (hk : 0 < k) (hk2 : k ≤ 32) :
    CT Try.prog 32 [.pointer (some ⟨r, 0, none⟩), .int .i64 v] w fun u w' => u = .tuple #[.int .i64 (if xs.length = k then xs.headD 0 else 0), .bool (decide (xs.length = k))] ∧ Holds w' (Rf r k ((if xs.length = k then xs.tail else xs) ++ [v]) :: L) := by
  obtain ⟨vl, H⟩ := rf_open.1 H
  refine CT.enter (N := 47) Try.func32 rfl rfl rfl rfl ?_
  refine W.seq (fun K0 hK0 => ?_)
  refine W.region ?_
  refine O.ex (Ex.assign rfl) rfl ?_
  refine O.ex (Ex.assign rfl) rfl ?_
  refine O.nil ?_
  refine hK0 _ _ _ ?_
  refine W.seq (fun K1 hK1 => ?_)
  refine W.region ?_
  refine O.ex (Ex.assign rfl) rfl ?_
  refine O.nil ?_
  refine hK1 _ _ _ ?_
  refine W.seq (fun K2 hK2 => ?_)
  refine W.drawTo _ (.take 0 (.take 1 (.take 2 (.take 3 (.take 4 (.take 5 (.take 6 (.take 7 (.take 8 (.take 9 (.take 10 .nil))))))))))) (mixed) (fun _ _ _ _ h => h) (by assumption) (PP.refl _) (by decide +kernel) (fun w H => ?_)
  refine OQ.ex rfl (fun w H => (Ex.move rfl)) rfl ?_
  refine OQ.ex rfl (fun w H => (by first | exact Ex.nilPtr rfl | exact Ex.nilFunc rfl | exact Ex.nilYield rfl)) rfl ?_
  refine OQ.ex rfl (fun w H => (by first | exact Ex.field0 fld63_1 rfl | exact Ex.field fld63_1 rfl | exact Ex.fieldS fld63_1 rfl)) rfl ?_
  refine OQ.ex rfl (fun w H => (by first | exact Ex.loadP Try.isAgg52 rfl | exact Ex.loadR Try.isAgg52 rfl | exact Ex.loadIn1 Try.isAgg52 rfl (Holds.to (by assumption)))) rfl ?_
  refine OQ.ex rfl (fun w H => (by first | exact Ex.lenR Try.runUnderlying52 rfl | exact Ex.lenIn Try.runUnderlying52 rfl | exact Ex.lenL Try.runUnderlying52 rfl | exact Ex.len rfl Try.runUnderlying52 rfl)) rfl ?_
  refine OQ.ex rfl (fun w H => (Ex.move rfl)) rfl ?_
  refine OQ.ex rfl (fun w H => (by first | exact Ex.nilPtr rfl | exact Ex.nilFunc rfl | exact Ex.nilYield rfl)) rfl ?_
  refine OQ.ex rfl (fun w H => (by first | exact Ex.field0 fld63_0 rfl | exact Ex.field fld63_0 rfl | exact Ex.fieldS fld63_0 rfl)) rfl ?_
  refine OQ.ex rfl (fun w H => (by first | exact Ex.loadP Try.isAgg3 rfl | exact Ex.loadR Try.isAgg3 rfl | exact Ex.loadIn1 Try.isAgg3 rfl (Holds.to (by assumption)))) rfl ?_
  refine OQ.ex rfl (fun w H => (Ex.eqlI rfl rfl)) rfl ?_
  refine OQ.ex rfl (fun w H => (Ex.assign rfl)) rfl ?_
  refine OQ.done ?_
  refine hK2 _ _ _ ?_
  refine W.seq (fun K3 hK3 => ?_)
  refine W.seq (fun K4 hK4 => ?_)
  refine W.region ?_
  refine O.ex (Ex.move rfl) rfl ?_
  refine O.nil ?_
  refine hK4 _ _ _ ?_
  first | refine W.cond_p rfl (fun hfull => ?_) (fun hnot => ?_) | refine W.cond_b rfl (fun hfull => ?_) (fun hnot => ?_)
  · refine W.seq (fun K5 hK5 => ?_)
    refine W.region ?_
    refine O.ex (Ex.move rfl) rfl ?_
    refine O.ex (by first | exact Ex.nilPtr rfl | exact Ex.nilFunc rfl | exact Ex.nilYield rfl) rfl ?_
    refine O.ex (by first | exact Ex.field0 fld63_1 rfl | exact Ex.field fld63_1 rfl | exact Ex.fieldS fld63_1 rfl) rfl ?_
    refine O.ex (by first | exact Ex.loadP Try.isAgg52 rfl | exact Ex.loadR Try.isAgg52 rfl | exact Ex.loadIn1 Try.isAgg52 rfl (Holds.to (by assumption))) rfl ?_
    refine O.ex (by first | exact Ex.idxR Try.runUnderlying52 Try.sizeOf3 rfl rfl | exact Ex.idxIn Try.runUnderlying52 Try.sizeOf3 rfl rfl | exact Ex.idxS Try.runUnderlying52 Try.sizeOf3 rfl rfl | exact Ex.idx Try.runUnderlying52 Try.sizeOf3 rfl rfl (by omega) (by omega)) rfl ?_
    refine O.ex (by first | exact Ex.loadP Try.isAgg3 rfl | exact Ex.loadR Try.isAgg3 rfl | exact Ex.loadIn1 Try.isAgg3 rfl (Holds.to (by assumption))) rfl ?_
    refine O.ex (Ex.assign rfl) rfl ?_
    refine O.nil ?_
    refine hK5 _ _ _ ?_
    refine W.region ?_
    refine O.ex (Ex.move rfl) rfl ?_
    refine O.build0 (e := Value.int .i64) Try.runUnderlying52 Try.sizeOf3 (fun v26 w hv26 H => ?_)
    refine O.ex (Ex.move rfl) rfl ?_
    refine O.ex (by first | exact Ex.nilPtr rfl | exact Ex.nilFunc rfl | exact Ex.nilYield rfl) rfl ?_
    refine O.ex (by first | exact Ex.field0 fld63_1 rfl | exact Ex.field fld63_1 rfl | exact Ex.fieldS fld63_1 rfl) rfl ?_
    refine O.ex (by first | exact Ex.loadP Try.isAgg52 rfl | exact Ex.loadR Try.isAgg52 rfl | exact Ex.loadIn1 Try.isAgg52 rfl (Holds.to (by assumption))) rfl ?_
    refine O.ex (Ex.sliceLo Try.runUnderlying52 Try.sizeOf3 rfl rfl) rfl ?_
    refine O.appendCut Try.runUnderlying52 Try.typeInfo3 (bt := 8) rfl Try.sizeOf3 Try.zeroValue3 rfl rfl (fun v32 w hv32 H => ?_)
    refine O.ex (by first | exact Ex.nilPtr rfl | exact Ex.nilFunc rfl | exact Ex.nilYield rfl) rfl ?_
    refine O.ex (by first | exact Ex.field0 fld63_1 rfl | exact Ex.field fld63_1 rfl | exact Ex.fieldS fld63_1 rfl) rfl ?_
    first | refine O.storeP Try.sizeOf52 rfl rfl (fun w H => ?_) | refine O.storeR Try.sizeOf52 rfl rfl (fun w H => ?_)
    rw [show (([] : List Int) ++ xs.drop (1 : Int).toNat) = xs.tail from by simp] at H
    have hlt : xs.tail.length ≤ 32 := by simp only [List.length_tail]; omega
    refine O.nil ?_
    refine hK3 _ _ _ ?_
    refine W.seq (fun K6 hK6 => ?_)
    refine W.region ?_
    refine O.ex (Ex.move rfl) rfl ?_
    refine O.ex (Ex.move rfl) rfl ?_
    refine O.ex (by first | exact Ex.nilPtr rfl | exact Ex.nilFunc rfl | exact Ex.nilYield rfl) rfl ?_
    refine O.ex (by first | exact Ex.field0 fld63_1 rfl | exact Ex.field fld63_1 rfl | exact Ex.fieldS fld63_1 rfl) rfl ?_
    refine O.ex (by first | exact Ex.loadP Try.isAgg52 rfl | exact Ex.loadR Try.isAgg52 rfl | exact Ex.loadIn1 Try.isAgg52 rfl (Holds.to (by assumption))) rfl ?_
    refine O.ex (Ex.move rfl) rfl ?_
    refine O.build1 (e := Value.int .i64) Try.runUnderlying52 Try.sizeOf3 Try.zeroValue3 rfl (fun v41 w hv41 H => ?_)
    refine O.appendR Try.runUnderlying52 Try.typeInfo3 (bt := 8) rfl Try.sizeOf3 Try.zeroValue3 rfl rfl (fun v42 w hv42 H => ?_)
    refine O.ex (by first | exact Ex.nilPtr rfl | exact Ex.nilFunc rfl | exact Ex.nilYield rfl) rfl ?_
    refine O.ex (by first | exact Ex.field0 fld63_1 rfl | exact Ex.field fld63_1 rfl | exact Ex.fieldS fld63_1 rfl) rfl ?_
    first | refine O.storeP Try.sizeOf52 rfl rfl (fun w H => ?_) | refine O.storeR Try.sizeOf52 rfl rfl (fun w H => ?_)
    refine O.nil ?_
    refine hK6 _ _ _ ?_
    refine W.seq (fun K7 hK7 => ?_)
    refine W.region ?_
    refine O.ex (Ex.move rfl) rfl ?_
    refine O.ex (Ex.move rfl) rfl ?_
    refine O.ex (Ex.assign rfl) rfl ?_
    refine O.ex (Ex.assign rfl) rfl ?_
    refine O.nil ?_
    refine hK7 _ _ _ ?_
    refine W.ret ?_
    try dsimp only [thenQ, blockQ, retQ]
    first | refine ⟨_, ⟨_, _, rfl, rfl, _, _, rfl, rfl, rfl⟩, ?_⟩ | (refine retD_mark ?_; intro w H; refine ⟨_, ⟨_, _, rfl, rfl, _, _, rfl, rfl, rfl⟩, ?_⟩) | (refine retD_mark2 ?_; intro w H; refine ⟨_, ⟨_, _, rfl, rfl, _, _, rfl, rfl, rfl⟩, ?_⟩)
    first
    | (have hk : xs.length = k := by omega
       refine ⟨?_, rf_open.2 ⟨_, by rw [if_pos hk]; exact Holds.to (by assumption)⟩⟩
       obtain ⟨x, ys, rfl⟩ : ∃ x ys, xs = x :: ys := by cases xs with | nil => simp only [List.length_nil] at hk; omega | cons x ys => exact ⟨x, ys, rfl⟩
       rw [if_pos hk, decide_eq_true hfull, decide_eq_true hk] <;> rfl)
    | (have hk : ¬ xs.length = k := by omega
       refine ⟨?_, rf_open.2 ⟨_, by rw [if_neg hk]; exact Holds.to (by assumption)⟩⟩
       rw [if_neg hk, decide_eq_false hnot, decide_eq_false hk] <;> rfl)
  · refine W.skip ?_
    refine hK3 _ _ _ ?_
    refine W.seq (fun K8 hK8 => ?_)
    refine W.region ?_
    refine O.ex (Ex.move rfl) rfl ?_
    refine O.ex (Ex.move rfl) rfl ?_
    refine O.ex (by first | exact Ex.nilPtr rfl | exact Ex.nilFunc rfl | exact Ex.nilYield rfl) rfl ?_
    refine O.ex (by first | exact Ex.field0 fld63_1 rfl | exact Ex.field fld63_1 rfl | exact Ex.fieldS fld63_1 rfl) rfl ?_
    refine O.ex (by first | exact Ex.loadP Try.isAgg52 rfl | exact Ex.loadR Try.isAgg52 rfl | exact Ex.loadIn1 Try.isAgg52 rfl (Holds.to (by assumption))) rfl ?_
    refine O.ex (Ex.move rfl) rfl ?_
    refine O.build1 (e := Value.int .i64) Try.runUnderlying52 Try.sizeOf3 Try.zeroValue3 rfl (fun v41 w hv41 H => ?_)
    refine O.appendR Try.runUnderlying52 Try.typeInfo3 (bt := 8) rfl Try.sizeOf3 Try.zeroValue3 rfl rfl (fun v42 w hv42 H => ?_)
    refine O.ex (by first | exact Ex.nilPtr rfl | exact Ex.nilFunc rfl | exact Ex.nilYield rfl) rfl ?_
    refine O.ex (by first | exact Ex.field0 fld63_1 rfl | exact Ex.field fld63_1 rfl | exact Ex.fieldS fld63_1 rfl) rfl ?_
    first | refine O.storeP Try.sizeOf52 rfl rfl (fun w H => ?_) | refine O.storeR Try.sizeOf52 rfl rfl (fun w H => ?_)
    refine O.nil ?_
    refine hK8 _ _ _ ?_
    refine W.seq (fun K9 hK9 => ?_)
    refine W.region ?_
    refine O.ex (Ex.move rfl) rfl ?_
    refine O.ex (Ex.move rfl) rfl ?_
    refine O.ex (Ex.assign rfl) rfl ?_
    refine O.ex (Ex.assign rfl) rfl ?_
    refine O.nil ?_
    refine hK9 _ _ _ ?_
    refine W.ret ?_
    try dsimp only [thenQ, blockQ, retQ]
    first | refine ⟨_, ⟨_, _, rfl, rfl, _, _, rfl, rfl, rfl⟩, ?_⟩ | (refine retD_mark ?_; intro w H; refine ⟨_, ⟨_, _, rfl, rfl, _, _, rfl, rfl, rfl⟩, ?_⟩) | (refine retD_mark2 ?_; intro w H; refine ⟨_, ⟨_, _, rfl, rfl, _, _, rfl, rfl, rfl⟩, ?_⟩)
    first
    | (have hk : xs.length = k := by omega
       refine ⟨?_, rf_open.2 ⟨_, by rw [if_pos hk]; exact Holds.to (by assumption)⟩⟩
       obtain ⟨x, ys, rfl⟩ : ∃ x ys, xs = x :: ys := by cases xs with | nil => simp only [List.length_nil] at hk; omega | cons x ys => exact ⟨x, ys, rfl⟩
       rw [if_pos hk, decide_eq_true hfull, decide_eq_true hk] <;> rfl)
    | (have hk : ¬ xs.length = k := by omega
       refine ⟨?_, rf_open.2 ⟨_, by rw [if_neg hk]; exact Holds.to (by assumption)⟩⟩
       rw [if_neg hk, decide_eq_false hnot, decide_eq_false hk] <;> rfl)
set_option maxRecDepth 20000 in
set_option maxHeartbeats 2000000 in
theorem ringPlays_ct {w0 : World} {nv ov : Value} {room : Int} {nums : List Int} {off : List Bool} (hx : SlIn w0 1 (fun s : Int => [.int .i64 s]) nv nums) (hx2 : SlIn w0 1 (fun s : Bool => [.bool s]) ov off) (hl0 : nums.length ≤ 9223372036854775807) (hl1 : off.length ≤ 9223372036854775807) :
    CT Try.prog 6 [.int .i64 room, nv, ov] w0 fun u w' => u = .bool true ∧ RowKit.Below w0.heap.size w0 w' := by
  have H := Holds.base_refl w0
  refine CT.enter (N := 139) Try.func6 rfl rfl rfl rfl ?_
  refine W.seq (fun K0 hK0 => ?_)
  refine W.region ?_
  refine O.ex (Ex.assign rfl) rfl ?_
  refine O.nil ?_
  refine hK0 _ _ _ ?_
  refine W.seq (fun K1 hK1 => ?_)
  refine W.seq (fun K2 hK2 => ?_)
  refine W.region ?_
  refine O.callF Try.call27 rfl rfl (CT.mono (awake06_ct (by assumption)) ?_)
  rintro _ w ⟨rfl, H⟩
  refine O.ex (by first | exact Ex.notD rfl | exact Ex.not rfl) rfl ?_
  refine O.nil ?_
  refine hK2 _ _ _ ?_
  refine W.known_f rfl (by first | rfl | decide | exact decide_eq_true (by omega) | exact decide_eq_false (by omega) | exact decide_eq_false (fun hh => hh rfl) | simp) ?_
  refine W.skip ?_
  refine hK1 _ _ _ ?_
  refine W.seq (fun K3 hK3 => ?_)
  refine W.region ?_
  refine O.ex (Ex.move rfl) rfl ?_
  refine O.callF Try.call28 rfl rfl (CT.mono (newIG_ct (by assumption)) ?_)
  rintro _ w hx3
  rcases hx3 with ⟨hn, rfl, H⟩ | ⟨hn, s, rfl, H⟩
  · refine O.ex (Ex.move rfl) rfl ?_
    refine O.ex (Ex.extract rfl rfl) rfl ?_
    refine O.ex (Ex.extract rfl rfl) rfl ?_
    refine O.ex (Ex.assign rfl) rfl ?_
    refine O.ex (Ex.assign rfl) rfl ?_
    refine O.nil ?_
    refine hK3 _ _ _ ?_
    refine W.seq (fun K4 hK4 => ?_)
    refine W.seq (fun K5 hK5 => ?_)
    refine W.region ?_
    refine O.ex (Ex.move rfl) rfl ?_
    refine O.ex (Ex.lss rfl rfl) rfl ?_
    refine O.ex (Ex.move rfl) rfl ?_
    first | refine O.split_p (t := 28) rfl (fun hneg => ?_) (fun hpos => ?_) | refine O.split (t := 28) rfl (fun hneg => ?_) (fun hpos => ?_)
    · refine O.guard_f rfl rfl rfl rfl ?_
      refine O.guard_f rfl rfl rfl rfl ?_
      refine O.ex (Ex.pick_t rfl rfl) rfl ?_
      refine O.nil ?_
      refine hK5 _ _ _ ?_
      refine W.cond_t rfl ?_
      refine W.seq (fun K6 hK6 => ?_)
      refine W.region ?_
      refine O.ex (Ex.move rfl) rfl ?_
      refine O.ex (Ex.nilEq Try.runUnderlying58 rfl rfl) rfl ?_
      refine O.ex (Ex.move rfl) rfl ?_
      refine O.known (t := 34) (c := true) rfl (by first | rfl | decide | exact decide_eq_true (by omega) | exact decide_eq_false (by omega) | exact decide_eq_false (fun hh => hh rfl) | simp) ?_
      refine O.guard_t rfl rfl ?_
      refine O.ex (Ex.move rfl) rfl ?_
      refine O.guard_t rfl rfl ?_
      refine O.ex (Ex.eqlI rfl rfl) rfl ?_
      refine O.ex (Ex.pick_t rfl rfl) rfl ?_
      refine O.ex (Ex.assign rfl) rfl ?_
      refine O.nil ?_
      refine hK6 _ _ _ ?_
      refine W.ret ?_
      try dsimp only [thenQ, blockQ, retQ]
      first | refine ⟨_, ⟨_, _, rfl, rfl, rfl⟩, ?_⟩ | (refine retD_mark ?_; intro w H; refine ⟨_, ⟨_, _, rfl, rfl, rfl⟩, ?_⟩) | (refine retD_mark2 ?_; intro w H; refine ⟨_, ⟨_, _, rfl, rfl, rfl⟩, ?_⟩)
      exact ⟨by first | rfl | exact congrArg Value.bool (by decide), Holds.base_below (L := []) (Holds.to (by assumption))⟩
    · refine O.guard_t rfl rfl ?_
      refine O.ex (Ex.move rfl) rfl ?_
      refine O.guard_t rfl rfl ?_
      refine O.ex (Ex.gtr rfl rfl) rfl ?_
      refine O.ex (Ex.pick_f rfl rfl) rfl ?_
      refine O.nil ?_
      refine hK5 _ _ _ ?_
      refine W.known_t rfl (by first | rfl | decide | exact decide_eq_true (by omega) | exact decide_eq_false (by omega) | exact decide_eq_false (fun hh => hh rfl) | simp) ?_
      refine W.seq (fun K7 hK7 => ?_)
      refine W.region ?_
      refine O.ex (Ex.move rfl) rfl ?_
      refine O.ex (Ex.nilEq Try.runUnderlying58 rfl rfl) rfl ?_
      refine O.ex (Ex.move rfl) rfl ?_
      refine O.known (t := 34) (c := true) rfl (by first | rfl | decide | exact decide_eq_true (by omega) | exact decide_eq_false (by omega) | exact decide_eq_false (fun hh => hh rfl) | simp) ?_
      refine O.guard_t rfl rfl ?_
      refine O.ex (Ex.move rfl) rfl ?_
      refine O.guard_t rfl rfl ?_
      refine O.ex (Ex.eqlI rfl rfl) rfl ?_
      refine O.ex (Ex.pick_t rfl rfl) rfl ?_
      refine O.ex (Ex.assign rfl) rfl ?_
      refine O.nil ?_
      refine hK7 _ _ _ ?_
      refine W.ret ?_
      try dsimp only [thenQ, blockQ, retQ]
      first | refine ⟨_, ⟨_, _, rfl, rfl, rfl⟩, ?_⟩ | (refine retD_mark ?_; intro w H; refine ⟨_, ⟨_, _, rfl, rfl, rfl⟩, ?_⟩) | (refine retD_mark2 ?_; intro w H; refine ⟨_, ⟨_, _, rfl, rfl, rfl⟩, ?_⟩)
      exact ⟨by first | rfl | exact congrArg Value.bool (by decide), Holds.base_below (L := []) (Holds.to (by assumption))⟩
  · refine O.ex (Ex.move rfl) rfl ?_
    refine O.ex (Ex.extract rfl rfl) rfl ?_
    refine O.ex (Ex.extract rfl rfl) rfl ?_
    refine O.ex (Ex.assign rfl) rfl ?_
    refine O.ex (Ex.assign rfl) rfl ?_
    refine O.nil ?_
    refine hK3 _ _ _ ?_
    refine W.seq (fun K8 hK8 => ?_)
    refine W.seq (fun K9 hK9 => ?_)
    refine W.region ?_
    refine O.ex (Ex.move rfl) rfl ?_
    refine O.ex (Ex.lss rfl rfl) rfl ?_
    refine O.ex (Ex.move rfl) rfl ?_
    refine O.known (t := 28) (c := false) rfl (by first | rfl | decide | exact decide_eq_true (by omega) | exact decide_eq_false (by omega) | exact decide_eq_false (fun hh => hh rfl) | simp) ?_
    refine O.guard_t rfl rfl ?_
    refine O.ex (Ex.move rfl) rfl ?_
    refine O.guard_t rfl rfl ?_
    refine O.ex (Ex.gtr rfl rfl) rfl ?_
    refine O.ex (Ex.pick_f rfl rfl) rfl ?_
    refine O.nil ?_
    refine hK9 _ _ _ ?_
    refine W.known_f rfl (by first | rfl | decide | exact decide_eq_true (by omega) | exact decide_eq_false (by omega) | exact decide_eq_false (fun hh => hh rfl) | simp) ?_
    refine W.skip ?_
    refine hK8 _ _ _ ?_
    refine W.seq (fun K10 hK10 => ?_)
    refine W.seq (fun K11 hK11 => ?_)
    refine W.region ?_
    refine O.ex (Ex.move rfl) rfl ?_
    refine O.ex (Ex.nilEq Try.runUnderlying58 rfl rfl) rfl ?_
    refine O.ex (Ex.move rfl) rfl ?_
    refine O.known (t := 40) (c := false) rfl (by first | rfl | decide | exact decide_eq_true (by omega) | exact decide_eq_false (by omega) | exact decide_eq_false (fun hh => hh rfl) | simp) ?_
    refine O.guard_t rfl rfl ?_
    refine O.ex (Ex.move rfl) rfl ?_
    refine O.guard_t rfl rfl ?_
    refine O.ex (Ex.neqI rfl rfl) rfl ?_
    refine O.ex (Ex.pick_f rfl rfl) rfl ?_
    refine O.nil ?_
    refine hK11 _ _ _ ?_
    refine W.known_f rfl (by first | rfl | decide | exact decide_eq_true (by omega) | exact decide_eq_false (by omega) | exact decide_eq_false (fun hh => hh rfl) | simp) ?_
    refine W.skip ?_
    refine hK10 _ _ _ ?_
    refine W.seq (fun K12 hK12 => ?_)
    refine W.region ?_
    refine O.ex (Ex.move rfl) rfl ?_
    refine O.ex (Ex.build rfl (bld63_0 _ (by first | rfl | assumption))) rfl ?_
    refine O.boxP rfl (fun b46 w H => ?_)
    refine O.ex (Ex.assign rfl) rfl ?_
    refine O.nil ?_
    refine hK12 _ _ _ ?_
    refine W.seq (fun K13 hK13 => ?_)
    refine W.seq (fun K14 hK14 => ?_)
    refine W.region ?_
    refine O.ex (Ex.assign rfl) rfl ?_
    refine O.nil ?_
    refine hK14 _ _ _ ?_
    refine W.block ?_
    obtain ⟨k, hk⟩ : ∃ k : Nat, room = k := ⟨room.toNat, by omega⟩
    subst hk
    rw [Int.toNat_natCast] at H
    have H := arr_nil (T := 3) (e := Value.int .i64) H
    have H : Holds w [Rf b46 k [], RgI s k [], base w0] := rf_open.2 ⟨.slice none 0 0, Holds.to (by assumption)⟩
    refine W.loop (σ := Nat × List Int) (fun z => [(0, .int .i64 k), (1, nv), (2, ov), (7, .pointer (some ⟨s, 0, none⟩)), (9, .pointer (some ⟨b46, 0, none⟩)), (10, .int .i64 (z.1 : Int))]) (fun z ds w => ds = [] ∧ z.1 ≤ nums.length ∧ z.2.length ≤ k ∧ Holds w [RgI s k z.2, Rf b46 k z.2, base w0]) (fun z => nums.length - z.1) (0, []) ⟨rfl, rfl, rfl, rfl, rfl, rfl, trivial⟩ ⟨rfl, by simp, by simp, Holds.to (by assumption)⟩ ?_
    clear H
    rintro ⟨i, xs⟩ _ w ⟨rfl, hi, hxs, H⟩
    dsimp only at hi hxs H ⊢
    refine W.seq (fun K15 hK15 => ?_)
    refine W.seq (fun K16 hK16 => ?_)
    refine W.region ?_
    refine O.ex (Ex.move rfl) rfl ?_
    refine O.ex (Ex.move rfl) rfl ?_
    refine O.ex (by first | exact Ex.lenR Try.runUnderlying52 rfl | exact Ex.lenIn Try.runUnderlying52 rfl | exact Ex.lenL Try.runUnderlying52 rfl | exact Ex.len rfl Try.runUnderlying52 rfl) rfl ?_
    refine O.ex (Ex.lss rfl rfl) rfl ?_
    refine O.ex (Ex.move rfl) rfl ?_
    first | refine O.split_p (t := 51) rfl (fun hlt => ?_) (fun hge => ?_) | refine O.split (t := 51) rfl (fun hlt => ?_) (fun hge => ?_)
    · refine O.guard_t rfl rfl ?_
      refine O.ex (Ex.move rfl) rfl ?_
      refine O.guard_t rfl rfl ?_
      refine O.ex (Ex.lss rfl rfl) rfl ?_
      refine O.ex (Ex.pick_t rfl rfl) rfl ?_
      refine O.nil ?_
      refine hK16 _ _ _ ?_
      first | refine W.cond_p rfl (fun h300 => ?_) (fun h300' => ?_) | refine W.cond_b rfl (fun h300 => ?_) (fun h300' => ?_)
      · refine W.skip ?_
        refine hK15 _ _ _ ?_
        refine W.seq (fun K17 hK17 => ?_)
        refine W.block ?_
        refine W.seq (fun K18 hK18 => ?_)
        refine W.region ?_
        refine O.ex (Ex.assign rfl) rfl ?_
        refine O.ex (Ex.assign rfl) rfl ?_
        refine O.nil ?_
        refine hK18 _ _ _ ?_
        refine W.seq (fun K19 hK19 => ?_)
        refine W.region ?_
        refine O.ex (Ex.assign rfl) rfl ?_
        refine O.ex (Ex.assign rfl) rfl ?_
        refine O.nil ?_
        refine hK19 _ _ _ ?_
        refine W.seq (fun K20 hK20 => ?_)
        refine W.seq (fun K21 hK21 => ?_)
        refine W.region ?_
        refine O.ex (Ex.move rfl) rfl ?_
        refine O.ex (Ex.move rfl) rfl ?_
        refine O.ex (by first | exact Ex.lenR Try.runUnderlying48 rfl | exact Ex.lenIn Try.runUnderlying48 rfl | exact Ex.lenL Try.runUnderlying48 rfl | exact Ex.len rfl Try.runUnderlying48 rfl) rfl ?_
        refine O.ex (Ex.lss rfl rfl) rfl ?_
        refine O.ex (Ex.move rfl) rfl ?_
        first | refine O.split_p (t := 61) rfl (fun h61 => ?_) (fun h61 => ?_) | refine O.split (t := 61) rfl (fun h61 => ?_) (fun h61 => ?_)
        · refine O.guard_t rfl rfl ?_
          refine O.ex (Ex.move rfl) rfl ?_
          refine O.guard_t rfl rfl ?_
          refine O.ex (Ex.move rfl) rfl ?_
          refine O.guard_t rfl rfl ?_
          refine O.ex (by first | exact Ex.idxR Try.runUnderlying48 Try.sizeOf4 rfl rfl | exact Ex.idxIn Try.runUnderlying48 Try.sizeOf4 rfl rfl | exact Ex.idxS Try.runUnderlying48 Try.sizeOf4 rfl rfl | exact Ex.idx Try.runUnderlying48 Try.sizeOf4 rfl rfl (by omega) (by omega)) rfl ?_
          refine O.guard_t rfl rfl ?_
          refine O.ex (by first | exact Ex.loadP Try.isAgg4 rfl | exact Ex.loadR Try.isAgg4 rfl | exact Ex.loadIn1 Try.isAgg4 rfl (Holds.to (by assumption))) rfl ?_
          refine O.ex (Ex.pick_t rfl rfl) rfl ?_
          refine O.nil ?_
          refine hK21 _ _ _ ?_
          first | refine W.cond_p rfl (fun h66 => ?_) (fun h66 => ?_) | refine W.cond_b rfl (fun h66 => ?_) (fun h66 => ?_)
          · refine W.seq (fun K22 hK22 => ?_)
            refine W.region ?_
            refine O.ex (Ex.move rfl) rfl ?_
            refine O.callF Try.call29 rfl rfl (CT.mono (popI_ct (Holds.to (by assumption))) ?_)
            rintro _ w ⟨rfl, H⟩
            refine O.ex (Ex.move rfl) rfl ?_
            refine O.ex (Ex.extract rfl rfl) rfl ?_
            refine O.ex (Ex.extract rfl rfl) rfl ?_
            refine O.ex (Ex.assign rfl) rfl ?_
            refine O.ex (Ex.assign rfl) rfl ?_
            refine O.nil ?_
            refine hK22 _ _ _ ?_
            refine W.region ?_
            refine O.ex (Ex.move rfl) rfl ?_
            refine O.callF Try.call30 rfl rfl (CT.mono (rfPop_ct (Holds.to (by assumption)) (by omega)) ?_)
            rintro _ w ⟨rfl, H⟩
            refine O.ex (Ex.move rfl) rfl ?_
            refine O.ex (Ex.extract rfl rfl) rfl ?_
            refine O.ex (Ex.extract rfl rfl) rfl ?_
            refine O.ex (Ex.assign rfl) rfl ?_
            refine O.ex (Ex.assign rfl) rfl ?_
            refine O.nil ?_
            refine hK20 _ _ _ ?_
            refine W.seq (fun K23 hK23 => ?_)
            refine W.region ?_
            obtain ⟨ys, hys, hyl⟩ : ∃ ys : List Int, ys.length ≤ k ∧ Holds w [RgI s k ys, Rf b46 k ys, base w0] := by
              refine ⟨_, ?_, Holds.to (by assumption)⟩
              first
              | (simp only [List.length_dropLast]; omega)
              | (split <;> simp only [List.length_append, List.length_tail, List.length_cons, List.length_nil] <;> omega)
            have H := hyl
            refine O.ex (Ex.move rfl) rfl ?_
            refine O.callF Try.call33 rfl rfl (CT.mono (topI_ct (Holds.to (by assumption))) ?_)
            rintro _ w ⟨rfl, H⟩
            refine O.ex (Ex.move rfl) rfl ?_
            refine O.ex (Ex.extract rfl rfl) rfl ?_
            refine O.ex (Ex.extract rfl rfl) rfl ?_
            refine O.ex (Ex.assign rfl) rfl ?_
            refine O.ex (Ex.assign rfl) rfl ?_
            refine O.nil ?_
            refine hK23 _ _ _ ?_
            refine W.seq (fun K24 hK24 => ?_)
            refine W.region ?_
            refine O.ex (Ex.move rfl) rfl ?_
            refine O.callF Try.call34 rfl rfl (CT.mono (rfTop_ct (Holds.to (by assumption)) (by omega)) ?_)
            rintro _ w ⟨rfl, H⟩
            refine O.ex (Ex.move rfl) rfl ?_
            refine O.ex (Ex.extract rfl rfl) rfl ?_
            refine O.ex (Ex.extract rfl rfl) rfl ?_
            refine O.ex (Ex.assign rfl) rfl ?_
            refine O.ex (Ex.assign rfl) rfl ?_
            refine O.nil ?_
            refine hK24 _ _ _ ?_
            refine W.seq (fun K25 hK25 => ?_)
            obtain ⟨vl, H⟩ := rf_open.1 (Holds.to (by assumption))
            refine W.drawTo _ (.take 0 (.take 1 (.take 2 (.take 3 (.take 4 (.take 5 (.take 6 (.take 7 (.take 8 (.take 9 (.take 10 (.take 11 (.take 12 (.take 13 (.take 14 (.take 15 (.take 16 (.take 17 (.take 18 (.take 19 (.take 21 (.take 22 (.take 23 (.take 24 (.take 25 (.one 20 (.take 26 (.take 27 (.take 28 (.take 29 (.take 31 (.one 30 (.take 32 (.take 33 .nil)))))))))))))))))))))))))))))))))) (mixed) (fun _ _ _ _ h => h) (by assumption) (PP.refl _) (by decide +kernel) (fun w H => ?_)
            refine OQ.ex rfl (fun w H => (Ex.move rfl)) rfl ?_
            refine OQ.ex rfl (fun w H => (Ex.move rfl)) rfl ?_
            refine OQ.ex rfl (fun w H => (Ex.neqI rfl rfl)) rfl ?_
            refine OQ.ex rfl (fun w H => (Ex.move rfl)) rfl ?_
            refine OQ.known (t := 108) (c := false) rfl (by first | rfl | decide | exact decide_eq_true (by omega) | exact decide_eq_false (by omega) | exact decide_eq_false (fun hh => hh rfl) | simp) ?_
            refine OQ.exT rfl rfl rfl (fun w H => (Ex.move rfl)) rfl ?_
            refine OQ.exT rfl rfl rfl (fun w H => (Ex.move rfl)) rfl ?_
            refine OQ.exT rfl rfl rfl (fun w H => (Ex.neqB Try.runUnderlying4 rfl rfl)) rfl ?_
            refine OQ.ex rfl (fun w H => (Ex.pick_f rfl rfl)) rfl ?_
            refine OQ.ex rfl (fun w H => (Ex.move rfl)) rfl ?_
            refine OQ.known (t := 113) (c := false) rfl (by first | rfl | decide | exact decide_eq_true (by omega) | exact decide_eq_false (by omega) | exact decide_eq_false (fun hh => hh rfl) | simp) ?_
            refine OQ.exT rfl rfl rfl (fun w H => (Ex.move rfl)) rfl ?_
            refine OQ.exT rfl rfl rfl (fun w H => (Ex.move rfl)) rfl ?_
            refine OQ.exT rfl rfl rfl (fun w H => (Ex.neqI rfl rfl)) rfl ?_
            refine OQ.ex rfl (fun w H => (Ex.pick_f rfl rfl)) rfl ?_
            refine OQ.ex rfl (fun w H => (Ex.move rfl)) rfl ?_
            refine OQ.known (t := 118) (c := false) rfl (by first | rfl | decide | exact decide_eq_true (by omega) | exact decide_eq_false (by omega) | exact decide_eq_false (fun hh => hh rfl) | simp) ?_
            refine OQ.exT rfl rfl rfl (fun w H => (Ex.move rfl)) rfl ?_
            refine OQ.exT rfl rfl rfl (fun w H => (Ex.move rfl)) rfl ?_
            refine OQ.exT rfl rfl rfl (fun w H => (Ex.neqB Try.runUnderlying4 rfl rfl)) rfl ?_
            refine OQ.ex rfl (fun w H => (Ex.pick_f rfl rfl)) rfl ?_
            refine OQ.ex rfl (fun w H => (Ex.move rfl)) rfl ?_
            refine OQ.known (t := 123) (c := false) rfl (by first | rfl | decide | exact decide_eq_true (by omega) | exact decide_eq_false (by omega) | exact decide_eq_false (fun hh => hh rfl) | simp) ?_
            refine OQ.exT rfl rfl rfl (fun w H => (Ex.move rfl)) rfl ?_
            refine OQ.exT rfl rfl rfl (fun w H => (Ex.move rfl)) rfl ?_
            refine OQ.exT rfl rfl rfl (fun w H => (by first | exact Ex.nilPtr rfl | exact Ex.nilFunc rfl | exact Ex.nilYield rfl)) rfl ?_
            refine OQ.exT rfl rfl rfl (fun w H => (by first | exact Ex.field0 fld63_1 rfl | exact Ex.field fld63_1 rfl | exact Ex.fieldS fld63_1 rfl)) rfl ?_
            refine OQ.exT rfl rfl rfl (fun w H => (by first | exact Ex.loadP Try.isAgg52 rfl | exact Ex.loadR Try.isAgg52 rfl | exact Ex.loadIn1 Try.isAgg52 rfl (Holds.to (by assumption)))) rfl ?_
            refine OQ.exT rfl rfl rfl (fun w H => (by first | exact Ex.lenR Try.runUnderlying52 rfl | exact Ex.lenIn Try.runUnderlying52 rfl | exact Ex.lenL Try.runUnderlying52 rfl | exact Ex.len rfl Try.runUnderlying52 rfl)) rfl ?_
            refine OQ.step rfl ?_
            refine O.guard_t rfl rfl ?_
            refine O.callF Try.call35 rfl rfl (CT.mono (lenIG_ct (Holds.to (by assumption))) ?_)
            rintro _ w ⟨rfl, H⟩
            refine O.thenNil ⟨(by first | exact Holds.to (by assumption) | assumption), ?_⟩
            refine OQ.exT rfl rfl rfl (fun w H => (Ex.neqI rfl rfl)) rfl ?_
            refine OQ.ex rfl (fun w H => (Ex.pick_f rfl rfl)) rfl ?_
            refine OQ.ex rfl (fun w H => (Ex.move rfl)) rfl ?_
            refine OQ.known (t := 133) (c := false) rfl (by first | rfl | decide | exact decide_eq_true (by omega) | exact decide_eq_false (by omega) | exact decide_eq_false (fun hh => hh rfl) | simp) ?_
            refine OQ.exT rfl rfl rfl (fun w H => (Ex.move rfl)) rfl ?_
            refine OQ.exT rfl rfl rfl (fun w H => (Ex.move rfl)) rfl ?_
            refine OQ.step rfl ?_
            refine O.guard_t rfl rfl ?_
            refine O.callF Try.call36 rfl rfl (CT.mono (roomIG_ct (Holds.to (by assumption))) ?_)
            rintro _ w ⟨rfl, H⟩
            refine O.thenNil ⟨(by first | exact Holds.to (by assumption) | assumption), ?_⟩
            refine OQ.exT rfl rfl rfl (fun w H => (Ex.neqI rfl rfl)) rfl ?_
            refine OQ.ex rfl (fun w H => (Ex.pick_f rfl rfl)) rfl ?_
            refine OQ.done ?_
            refine hK25 _ _ _ ?_
            refine W.known_f rfl (by first | rfl | decide | exact decide_eq_true (by omega) | exact decide_eq_false (by omega) | exact decide_eq_false (fun hh => hh rfl) | simp) ?_
            refine W.skip ?_
            refine hK17 _ _ _ ?_
            refine W.region ?_
            refine O.ex (Ex.move rfl) rfl ?_
            refine O.ex (by first | exact Ex.addI rfl rfl | exact Ex.add rfl rfl rfl) rfl ?_
            refine O.ex (Ex.assign rfl) rfl ?_
            refine O.nil ?_
            exact ⟨(i + 1, ys), ⟨rfl, rfl, rfl, rfl, rfl, rfl, trivial⟩, ⟨rfl, by simp only; omega, hys, Holds.to (rf_open.2 ⟨vl, Holds.to (by assumption)⟩)⟩, by simp only; omega⟩
          · refine W.seq (fun K26 hK26 => ?_)
            refine W.region ?_
            refine O.ex (Ex.move rfl) rfl ?_
            refine O.ex (Ex.move rfl) rfl ?_
            refine O.ex (Ex.move rfl) rfl ?_
            refine O.ex (by first | exact Ex.idxR Try.runUnderlying52 Try.sizeOf3 rfl rfl | exact Ex.idxIn Try.runUnderlying52 Try.sizeOf3 rfl rfl | exact Ex.idxS Try.runUnderlying52 Try.sizeOf3 rfl rfl | exact Ex.idx Try.runUnderlying52 Try.sizeOf3 rfl rfl (by omega) (by omega)) rfl ?_
            refine O.ex (by first | exact Ex.loadP Try.isAgg3 rfl | exact Ex.loadR Try.isAgg3 rfl | exact Ex.loadIn1 Try.isAgg3 rfl (Holds.to (by assumption))) rfl ?_
            refine O.callF Try.call31 rfl rfl (CT.mono (pushI_ct (Holds.to (by assumption))) ?_)
            rintro _ w ⟨rfl, H⟩
            refine O.ex (Ex.move rfl) rfl ?_
            refine O.ex (Ex.extract rfl rfl) rfl ?_
            refine O.ex (Ex.extract rfl rfl) rfl ?_
            refine O.ex (Ex.assign rfl) rfl ?_
            refine O.ex (Ex.assign rfl) rfl ?_
            refine O.nil ?_
            refine hK26 _ _ _ ?_
            refine W.region ?_
            refine O.ex (Ex.move rfl) rfl ?_
            refine O.ex (Ex.move rfl) rfl ?_
            refine O.ex (Ex.move rfl) rfl ?_
            refine O.ex (by first | exact Ex.idxR Try.runUnderlying52 Try.sizeOf3 rfl rfl | exact Ex.idxIn Try.runUnderlying52 Try.sizeOf3 rfl rfl | exact Ex.idxS Try.runUnderlying52 Try.sizeOf3 rfl rfl | exact Ex.idx Try.runUnderlying52 Try.sizeOf3 rfl rfl (by omega) (by omega)) rfl ?_
            refine O.ex (by first | exact Ex.loadP Try.isAgg3 rfl | exact Ex.loadR Try.isAgg3 rfl | exact Ex.loadIn1 Try.isAgg3 rfl (Holds.to (by assumption))) rfl ?_
            refine O.callF Try.call32 rfl rfl (CT.mono (rfPush_ct (k := k) (Holds.to (by assumption)) hxs (by omega) (by omega)) ?_)
            rintro _ w ⟨rfl, H⟩
            refine O.ex (Ex.move rfl) rfl ?_
            refine O.ex (Ex.extract rfl rfl) rfl ?_
            refine O.ex (Ex.extract rfl rfl) rfl ?_
            refine O.ex (Ex.assign rfl) rfl ?_
            refine O.ex (Ex.assign rfl) rfl ?_
            refine O.nil ?_
            refine hK20 _ _ _ ?_
            refine W.seq (fun K27 hK27 => ?_)
            refine W.region ?_
            obtain ⟨ys, hys, hyl⟩ : ∃ ys : List Int, ys.length ≤ k ∧ Holds w [RgI s k ys, Rf b46 k ys, base w0] := by
              refine ⟨_, ?_, Holds.to (by assumption)⟩
              first
              | (simp only [List.length_dropLast]; omega)
              | (split <;> simp only [List.length_append, List.length_tail, List.length_cons, List.length_nil] <;> omega)
            have H := hyl
            refine O.ex (Ex.move rfl) rfl ?_
            refine O.callF Try.call33 rfl rfl (CT.mono (topI_ct (Holds.to (by assumption))) ?_)
            rintro _ w ⟨rfl, H⟩
            refine O.ex (Ex.move rfl) rfl ?_
            refine O.ex (Ex.extract rfl rfl) rfl ?_
            refine O.ex (Ex.extract rfl rfl) rfl ?_
            refine O.ex (Ex.assign rfl) rfl ?_
            refine O.ex (Ex.assign rfl) rfl ?_
            refine O.nil ?_
            refine hK27 _ _ _ ?_
            refine W.seq (fun K28 hK28 => ?_)
            refine W.region ?_
            refine O.ex (Ex.move rfl) rfl ?_
            refine O.callF Try.call34 rfl rfl (CT.mono (rfTop_ct (Holds.to (by assumption)) (by omega)) ?_)
            rintro _ w ⟨rfl, H⟩
            refine O.ex (Ex.move rfl) rfl ?_
            refine O.ex (Ex.extract rfl rfl) rfl ?_
            refine O.ex (Ex.extract rfl rfl) rfl ?_
            refine O.ex (Ex.assign rfl) rfl ?_
            refine O.ex (Ex.assign rfl) rfl ?_
            refine O.nil ?_
            refine hK28 _ _ _ ?_
            refine W.seq (fun K29 hK29 => ?_)
            obtain ⟨vl, H⟩ := rf_open.1 (Holds.to (by assumption))
            refine W.drawTo _ (.take 0 (.take 1 (.take 2 (.take 3 (.take 4 (.take 5 (.take 6 (.take 7 (.take 8 (.take 9 (.take 10 (.take 11 (.take 12 (.take 13 (.take 14 (.take 15 (.take 16 (.take 17 (.take 18 (.take 19 (.take 21 (.take 22 (.take 23 (.take 24 (.take 25 (.one 20 (.take 26 (.take 27 (.take 28 (.take 29 (.take 31 (.one 30 (.take 32 (.take 33 .nil)))))))))))))))))))))))))))))))))) (mixed) (fun _ _ _ _ h => h) (by assumption) (PP.refl _) (by decide +kernel) (fun w H => ?_)
            refine OQ.ex rfl (fun w H => (Ex.move rfl)) rfl ?_
            refine OQ.ex rfl (fun w H => (Ex.move rfl)) rfl ?_
            refine OQ.ex rfl (fun w H => (Ex.neqI rfl rfl)) rfl ?_
            refine OQ.ex rfl (fun w H => (Ex.move rfl)) rfl ?_
            refine OQ.known (t := 108) (c := false) rfl (by first | rfl | decide | exact decide_eq_true (by omega) | exact decide_eq_false (by omega) | exact decide_eq_false (fun hh => hh rfl) | simp) ?_
            refine OQ.exT rfl rfl rfl (fun w H => (Ex.move rfl)) rfl ?_
            refine OQ.exT rfl rfl rfl (fun w H => (Ex.move rfl)) rfl ?_
            refine OQ.exT rfl rfl rfl (fun w H => (Ex.neqB Try.runUnderlying4 rfl rfl)) rfl ?_
            refine OQ.ex rfl (fun w H => (Ex.pick_f rfl rfl)) rfl ?_
            refine OQ.ex rfl (fun w H => (Ex.move rfl)) rfl ?_
            refine OQ.known (t := 113) (c := false) rfl (by first | rfl | decide | exact decide_eq_true (by omega) | exact decide_eq_false (by omega) | exact decide_eq_false (fun hh => hh rfl) | simp) ?_
            refine OQ.exT rfl rfl rfl (fun w H => (Ex.move rfl)) rfl ?_
            refine OQ.exT rfl rfl rfl (fun w H => (Ex.move rfl)) rfl ?_
            refine OQ.exT rfl rfl rfl (fun w H => (Ex.neqI rfl rfl)) rfl ?_
            refine OQ.ex rfl (fun w H => (Ex.pick_f rfl rfl)) rfl ?_
            refine OQ.ex rfl (fun w H => (Ex.move rfl)) rfl ?_
            refine OQ.known (t := 118) (c := false) rfl (by first | rfl | decide | exact decide_eq_true (by omega) | exact decide_eq_false (by omega) | exact decide_eq_false (fun hh => hh rfl) | simp) ?_
            refine OQ.exT rfl rfl rfl (fun w H => (Ex.move rfl)) rfl ?_
            refine OQ.exT rfl rfl rfl (fun w H => (Ex.move rfl)) rfl ?_
            refine OQ.exT rfl rfl rfl (fun w H => (Ex.neqB Try.runUnderlying4 rfl rfl)) rfl ?_
            refine OQ.ex rfl (fun w H => (Ex.pick_f rfl rfl)) rfl ?_
            refine OQ.ex rfl (fun w H => (Ex.move rfl)) rfl ?_
            refine OQ.known (t := 123) (c := false) rfl (by first | rfl | decide | exact decide_eq_true (by omega) | exact decide_eq_false (by omega) | exact decide_eq_false (fun hh => hh rfl) | simp) ?_
            refine OQ.exT rfl rfl rfl (fun w H => (Ex.move rfl)) rfl ?_
            refine OQ.exT rfl rfl rfl (fun w H => (Ex.move rfl)) rfl ?_
            refine OQ.exT rfl rfl rfl (fun w H => (by first | exact Ex.nilPtr rfl | exact Ex.nilFunc rfl | exact Ex.nilYield rfl)) rfl ?_
            refine OQ.exT rfl rfl rfl (fun w H => (by first | exact Ex.field0 fld63_1 rfl | exact Ex.field fld63_1 rfl | exact Ex.fieldS fld63_1 rfl)) rfl ?_
            refine OQ.exT rfl rfl rfl (fun w H => (by first | exact Ex.loadP Try.isAgg52 rfl | exact Ex.loadR Try.isAgg52 rfl | exact Ex.loadIn1 Try.isAgg52 rfl (Holds.to (by assumption)))) rfl ?_
            refine OQ.exT rfl rfl rfl (fun w H => (by first | exact Ex.lenR Try.runUnderlying52 rfl | exact Ex.lenIn Try.runUnderlying52 rfl | exact Ex.lenL Try.runUnderlying52 rfl | exact Ex.len rfl Try.runUnderlying52 rfl)) rfl ?_
            refine OQ.step rfl ?_
            refine O.guard_t rfl rfl ?_
            refine O.callF Try.call35 rfl rfl (CT.mono (lenIG_ct (Holds.to (by assumption))) ?_)
            rintro _ w ⟨rfl, H⟩
            refine O.thenNil ⟨(by first | exact Holds.to (by assumption) | assumption), ?_⟩
            refine OQ.exT rfl rfl rfl (fun w H => (Ex.neqI rfl rfl)) rfl ?_
            refine OQ.ex rfl (fun w H => (Ex.pick_f rfl rfl)) rfl ?_
            refine OQ.ex rfl (fun w H => (Ex.move rfl)) rfl ?_
            refine OQ.known (t := 133) (c := false) rfl (by first | rfl | decide | exact decide_eq_true (by omega) | exact decide_eq_false (by omega) | exact decide_eq_false (fun hh => hh rfl) | simp) ?_
            refine OQ.exT rfl rfl rfl (fun w H => (Ex.move rfl)) rfl ?_
            refine OQ.exT rfl rfl rfl (fun w H => (Ex.move rfl)) rfl ?_
            refine OQ.step rfl ?_
            refine O.guard_t rfl rfl ?_
            refine O.callF Try.call36 rfl rfl (CT.mono (roomIG_ct (Holds.to (by assumption))) ?_)
            rintro _ w ⟨rfl, H⟩
            refine O.thenNil ⟨(by first | exact Holds.to (by assumption) | assumption), ?_⟩
            refine OQ.exT rfl rfl rfl (fun w H => (Ex.neqI rfl rfl)) rfl ?_
            refine OQ.ex rfl (fun w H => (Ex.pick_f rfl rfl)) rfl ?_
            refine OQ.done ?_
            refine hK29 _ _ _ ?_
            refine W.known_f rfl (by first | rfl | decide | exact decide_eq_true (by omega) | exact decide_eq_false (by omega) | exact decide_eq_false (fun hh => hh rfl) | simp) ?_
            refine W.skip ?_
            refine hK17 _ _ _ ?_
            refine W.region ?_
            refine O.ex (Ex.move rfl) rfl ?_
            refine O.ex (by first | exact Ex.addI rfl rfl | exact Ex.add rfl rfl rfl) rfl ?_
            refine O.ex (Ex.assign rfl) rfl ?_
            refine O.nil ?_
            exact ⟨(i + 1, ys), ⟨rfl, rfl, rfl, rfl, rfl, rfl, trivial⟩, ⟨rfl, by simp only; omega, hys, Holds.to (rf_open.2 ⟨vl, Holds.to (by assumption)⟩)⟩, by simp only; omega⟩
        · refine O.guard_f rfl rfl rfl rfl ?_
          refine O.guard_f rfl rfl rfl rfl ?_
          refine O.guard_f rfl rfl rfl rfl ?_
          refine O.guard_f rfl rfl rfl rfl ?_
          refine O.ex (Ex.pick_f rfl rfl) rfl ?_
          refine O.nil ?_
          refine hK21 _ _ _ ?_
          refine W.cond_f rfl ?_
          refine W.seq (fun K30 hK30 => ?_)
          refine W.region ?_
          refine O.ex (Ex.move rfl) rfl ?_
          refine O.ex (Ex.move rfl) rfl ?_
          refine O.ex (Ex.move rfl) rfl ?_
          refine O.ex (by first | exact Ex.idxR Try.runUnderlying52 Try.sizeOf3 rfl rfl | exact Ex.idxIn Try.runUnderlying52 Try.sizeOf3 rfl rfl | exact Ex.idxS Try.runUnderlying52 Try.sizeOf3 rfl rfl | exact Ex.idx Try.runUnderlying52 Try.sizeOf3 rfl rfl (by omega) (by omega)) rfl ?_
          refine O.ex (by first | exact Ex.loadP Try.isAgg3 rfl | exact Ex.loadR Try.isAgg3 rfl | exact Ex.loadIn1 Try.isAgg3 rfl (Holds.to (by assumption))) rfl ?_
          refine O.callF Try.call31 rfl rfl (CT.mono (pushI_ct (Holds.to (by assumption))) ?_)
          rintro _ w ⟨rfl, H⟩
          refine O.ex (Ex.move rfl) rfl ?_
          refine O.ex (Ex.extract rfl rfl) rfl ?_
          refine O.ex (Ex.extract rfl rfl) rfl ?_
          refine O.ex (Ex.assign rfl) rfl ?_
          refine O.ex (Ex.assign rfl) rfl ?_
          refine O.nil ?_
          refine hK30 _ _ _ ?_
          refine W.region ?_
          refine O.ex (Ex.move rfl) rfl ?_
          refine O.ex (Ex.move rfl) rfl ?_
          refine O.ex (Ex.move rfl) rfl ?_
          refine O.ex (by first | exact Ex.idxR Try.runUnderlying52 Try.sizeOf3 rfl rfl | exact Ex.idxIn Try.runUnderlying52 Try.sizeOf3 rfl rfl | exact Ex.idxS Try.runUnderlying52 Try.sizeOf3 rfl rfl | exact Ex.idx Try.runUnderlying52 Try.sizeOf3 rfl rfl (by omega) (by omega)) rfl ?_
          refine O.ex (by first | exact Ex.loadP Try.isAgg3 rfl | exact Ex.loadR Try.isAgg3 rfl | exact Ex.loadIn1 Try.isAgg3 rfl (Holds.to (by assumption))) rfl ?_
          refine O.callF Try.call32 rfl rfl (CT.mono (rfPush_ct (k := k) (Holds.to (by assumption)) hxs (by omega) (by omega)) ?_)
          rintro _ w ⟨rfl, H⟩
          refine O.ex (Ex.move rfl) rfl ?_
          refine O.ex (Ex.extract rfl rfl) rfl ?_
          refine O.ex (Ex.extract rfl rfl) rfl ?_
          refine O.ex (Ex.assign rfl) rfl ?_
          refine O.ex (Ex.assign rfl) rfl ?_
          refine O.nil ?_
          refine hK20 _ _ _ ?_
          refine W.seq (fun K31 hK31 => ?_)
          refine W.region ?_
          obtain ⟨ys, hys, hyl⟩ : ∃ ys : List Int, ys.length ≤ k ∧ Holds w [RgI s k ys, Rf b46 k ys, base w0] := by
            refine ⟨_, ?_, Holds.to (by assumption)⟩
            first
            | (simp only [List.length_dropLast]; omega)
            | (split <;> simp only [List.length_append, List.length_tail, List.length_cons, List.length_nil] <;> omega)
          have H := hyl
          refine O.ex (Ex.move rfl) rfl ?_
          refine O.callF Try.call33 rfl rfl (CT.mono (topI_ct (Holds.to (by assumption))) ?_)
          rintro _ w ⟨rfl, H⟩
          refine O.ex (Ex.move rfl) rfl ?_
          refine O.ex (Ex.extract rfl rfl) rfl ?_
          refine O.ex (Ex.extract rfl rfl) rfl ?_
          refine O.ex (Ex.assign rfl) rfl ?_
          refine O.ex (Ex.assign rfl) rfl ?_
          refine O.nil ?_
          refine hK31 _ _ _ ?_
          refine W.seq (fun K32 hK32 => ?_)
          refine W.region ?_
          refine O.ex (Ex.move rfl) rfl ?_
          refine O.callF Try.call34 rfl rfl (CT.mono (rfTop_ct (Holds.to (by assumption)) (by omega)) ?_)
          rintro _ w ⟨rfl, H⟩
          refine O.ex (Ex.move rfl) rfl ?_
          refine O.ex (Ex.extract rfl rfl) rfl ?_
          refine O.ex (Ex.extract rfl rfl) rfl ?_
          refine O.ex (Ex.assign rfl) rfl ?_
          refine O.ex (Ex.assign rfl) rfl ?_
          refine O.nil ?_
          refine hK32 _ _ _ ?_
          refine W.seq (fun K33 hK33 => ?_)
          obtain ⟨vl, H⟩ := rf_open.1 (Holds.to (by assumption))
          refine W.drawTo _ (.take 0 (.take 1 (.take 2 (.take 3 (.take 4 (.take 5 (.take 6 (.take 7 (.take 8 (.take 9 (.take 10 (.take 11 (.take 12 (.take 13 (.take 14 (.take 15 (.take 16 (.take 17 (.take 18 (.take 19 (.take 21 (.take 22 (.take 23 (.take 24 (.take 25 (.one 20 (.take 26 (.take 27 (.take 28 (.take 29 (.take 31 (.one 30 (.take 32 (.take 33 .nil)))))))))))))))))))))))))))))))))) (mixed) (fun _ _ _ _ h => h) (by assumption) (PP.refl _) (by decide +kernel) (fun w H => ?_)
          refine OQ.ex rfl (fun w H => (Ex.move rfl)) rfl ?_
          refine OQ.ex rfl (fun w H => (Ex.move rfl)) rfl ?_
          refine OQ.ex rfl (fun w H => (Ex.neqI rfl rfl)) rfl ?_
          refine OQ.ex rfl (fun w H => (Ex.move rfl)) rfl ?_
          refine OQ.known (t := 108) (c := false) rfl (by first | rfl | decide | exact decide_eq_true (by omega) | exact decide_eq_false (by omega) | exact decide_eq_false (fun hh => hh rfl) | simp) ?_
          refine OQ.exT rfl rfl rfl (fun w H => (Ex.move rfl)) rfl ?_
          refine OQ.exT rfl rfl rfl (fun w H => (Ex.move rfl)) rfl ?_
          refine OQ.exT rfl rfl rfl (fun w H => (Ex.neqB Try.runUnderlying4 rfl rfl)) rfl ?_
          refine OQ.ex rfl (fun w H => (Ex.pick_f rfl rfl)) rfl ?_
          refine OQ.ex rfl (fun w H => (Ex.move rfl)) rfl ?_
          refine OQ.known (t := 113) (c := false) rfl (by first | rfl | decide | exact decide_eq_true (by omega) | exact decide_eq_false (by omega) | exact decide_eq_false (fun hh => hh rfl) | simp) ?_
          refine OQ.exT rfl rfl rfl (fun w H => (Ex.move rfl)) rfl ?_
          refine OQ.exT rfl rfl rfl (fun w H => (Ex.move rfl)) rfl ?_
          refine OQ.exT rfl rfl rfl (fun w H => (Ex.neqI rfl rfl)) rfl ?_
          refine OQ.ex rfl (fun w H => (Ex.pick_f rfl rfl)) rfl ?_
          refine OQ.ex rfl (fun w H => (Ex.move rfl)) rfl ?_
          refine OQ.known (t := 118) (c := false) rfl (by first | rfl | decide | exact decide_eq_true (by omega) | exact decide_eq_false (by omega) | exact decide_eq_false (fun hh => hh rfl) | simp) ?_
          refine OQ.exT rfl rfl rfl (fun w H => (Ex.move rfl)) rfl ?_
          refine OQ.exT rfl rfl rfl (fun w H => (Ex.move rfl)) rfl ?_
          refine OQ.exT rfl rfl rfl (fun w H => (Ex.neqB Try.runUnderlying4 rfl rfl)) rfl ?_
          refine OQ.ex rfl (fun w H => (Ex.pick_f rfl rfl)) rfl ?_
          refine OQ.ex rfl (fun w H => (Ex.move rfl)) rfl ?_
          refine OQ.known (t := 123) (c := false) rfl (by first | rfl | decide | exact decide_eq_true (by omega) | exact decide_eq_false (by omega) | exact decide_eq_false (fun hh => hh rfl) | simp) ?_
          refine OQ.exT rfl rfl rfl (fun w H => (Ex.move rfl)) rfl ?_
          refine OQ.exT rfl rfl rfl (fun w H => (Ex.move rfl)) rfl ?_
          refine OQ.exT rfl rfl rfl (fun w H => (by first | exact Ex.nilPtr rfl | exact Ex.nilFunc rfl | exact Ex.nilYield rfl)) rfl ?_
          refine OQ.exT rfl rfl rfl (fun w H => (by first | exact Ex.field0 fld63_1 rfl | exact Ex.field fld63_1 rfl | exact Ex.fieldS fld63_1 rfl)) rfl ?_
          refine OQ.exT rfl rfl rfl (fun w H => (by first | exact Ex.loadP Try.isAgg52 rfl | exact Ex.loadR Try.isAgg52 rfl | exact Ex.loadIn1 Try.isAgg52 rfl (Holds.to (by assumption)))) rfl ?_
          refine OQ.exT rfl rfl rfl (fun w H => (by first | exact Ex.lenR Try.runUnderlying52 rfl | exact Ex.lenIn Try.runUnderlying52 rfl | exact Ex.lenL Try.runUnderlying52 rfl | exact Ex.len rfl Try.runUnderlying52 rfl)) rfl ?_
          refine OQ.step rfl ?_
          refine O.guard_t rfl rfl ?_
          refine O.callF Try.call35 rfl rfl (CT.mono (lenIG_ct (Holds.to (by assumption))) ?_)
          rintro _ w ⟨rfl, H⟩
          refine O.thenNil ⟨(by first | exact Holds.to (by assumption) | assumption), ?_⟩
          refine OQ.exT rfl rfl rfl (fun w H => (Ex.neqI rfl rfl)) rfl ?_
          refine OQ.ex rfl (fun w H => (Ex.pick_f rfl rfl)) rfl ?_
          refine OQ.ex rfl (fun w H => (Ex.move rfl)) rfl ?_
          refine OQ.known (t := 133) (c := false) rfl (by first | rfl | decide | exact decide_eq_true (by omega) | exact decide_eq_false (by omega) | exact decide_eq_false (fun hh => hh rfl) | simp) ?_
          refine OQ.exT rfl rfl rfl (fun w H => (Ex.move rfl)) rfl ?_
          refine OQ.exT rfl rfl rfl (fun w H => (Ex.move rfl)) rfl ?_
          refine OQ.step rfl ?_
          refine O.guard_t rfl rfl ?_
          refine O.callF Try.call36 rfl rfl (CT.mono (roomIG_ct (Holds.to (by assumption))) ?_)
          rintro _ w ⟨rfl, H⟩
          refine O.thenNil ⟨(by first | exact Holds.to (by assumption) | assumption), ?_⟩
          refine OQ.exT rfl rfl rfl (fun w H => (Ex.neqI rfl rfl)) rfl ?_
          refine OQ.ex rfl (fun w H => (Ex.pick_f rfl rfl)) rfl ?_
          refine OQ.done ?_
          refine hK33 _ _ _ ?_
          refine W.known_f rfl (by first | rfl | decide | exact decide_eq_true (by omega) | exact decide_eq_false (by omega) | exact decide_eq_false (fun hh => hh rfl) | simp) ?_
          refine W.skip ?_
          refine hK17 _ _ _ ?_
          refine W.region ?_
          refine O.ex (Ex.move rfl) rfl ?_
          refine O.ex (by first | exact Ex.addI rfl rfl | exact Ex.add rfl rfl rfl) rfl ?_
          refine O.ex (Ex.assign rfl) rfl ?_
          refine O.nil ?_
          exact ⟨(i + 1, ys), ⟨rfl, rfl, rfl, rfl, rfl, rfl, trivial⟩, ⟨rfl, by simp only; omega, hys, Holds.to (rf_open.2 ⟨vl, Holds.to (by assumption)⟩)⟩, by simp only; omega⟩
      · refine W.exit ?_
        refine hK13 _ _ _ ?_
        refine W.seq (fun K34 hK34 => ?_)
        refine W.region ?_
        refine O.ex (Ex.assign rfl) rfl ?_
        refine O.nil ?_
        refine hK34 _ _ _ ?_
        refine W.ret ?_
        try dsimp only [thenQ, blockQ, retQ]
        first | refine ⟨_, ⟨_, _, rfl, rfl, rfl⟩, ?_⟩ | (refine retD_mark ?_; intro w H; refine ⟨_, ⟨_, _, rfl, rfl, rfl⟩, ?_⟩) | (refine retD_mark2 ?_; intro w H; refine ⟨_, ⟨_, _, rfl, rfl, rfl⟩, ?_⟩)
        exact ⟨by first | rfl | exact congrArg Value.bool (by decide), Holds.base_below (L := []) (Holds.to (by assumption))⟩
    · refine O.guard_f rfl rfl rfl rfl ?_
      refine O.guard_f rfl rfl rfl rfl ?_
      refine O.ex (Ex.pick_f rfl rfl) rfl ?_
      refine O.nil ?_
      refine hK16 _ _ _ ?_
      refine W.cond_f rfl ?_
      refine W.exit ?_
      refine hK13 _ _ _ ?_
      refine W.seq (fun K35 hK35 => ?_)
      refine W.region ?_
      refine O.ex (Ex.assign rfl) rfl ?_
      refine O.nil ?_
      refine hK35 _ _ _ ?_
      refine W.ret ?_
      try dsimp only [thenQ, blockQ, retQ]
      first | refine ⟨_, ⟨_, _, rfl, rfl, rfl⟩, ?_⟩ | (refine retD_mark ?_; intro w H; refine ⟨_, ⟨_, _, rfl, rfl, rfl⟩, ?_⟩) | (refine retD_mark2 ?_; intro w H; refine ⟨_, ⟨_, _, rfl, rfl, rfl⟩, ?_⟩)
      exact ⟨by first | rfl | exact congrArg Value.bool (by decide), Holds.base_below (L := []) (Holds.to (by assumption))⟩
theorem ringPlays_row {w0 : World} {nv ov : Value} {room : Int} {nums : List Int} {off : List Bool} (hr : (Lit.int .i64 room).wf = true) (hx : SlIn w0 1 (fun s : Int => [.int .i64 s]) nv nums) (g1 : ∀ x ∈ nums, (Lit.int .i64 x).wf = true) (hl0 : nums.length ≤ maxLen) (hx2 : SlIn w0 1 (fun s : Bool => [.bool s]) ov off) (g2 : ∀ x ∈ off, True) (hl1 : off.length ≤ maxLen) :
    CT Try.prog 6 [.int .i64 room, nv, ov] w0 fun u w' => u = .bool true ∧ RowKit.Below w0.heap.size w0 w' :=
  ringPlays_ct hx hx2 (by unfold maxLen at hl0; omega) (by unfold maxLen at hl1; omega)
end Go.Proofs.Ytikdblejkmaloaa
