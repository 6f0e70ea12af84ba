import Derived.Test.YtikdblejkmaloaaFacts
namespace Go.Proofs.Ytikdblejkmaloaa
open Go.Rr
set_option linter.unusedVariables false
/-- What a row holds: what is at each place, when it was set, the time, and how many. -/
structure RowM (α : Type) where
  v : List α
  wh : List Int
  now : Int
  n : Int
def RowM.has {α : Type} (R : RowM α) (i : Int) : Prop := (0 ≤ i ∧ i < R.v.length) ∧ R.wh.getD i.toNat 0 = R.now
instance {α : Type} (R : RowM α) (i : Int) : Decidable (R.has i) := by unfold RowM.has; exact inferInstance
def RowM.set {α : Type} (R : RowM α) (i : Int) (x : α) : RowM α :=
  if 0 ≤ i ∧ i < R.v.length then { v := R.v.set i.toNat x, wh := R.wh.set i.toNat R.now, now := R.now, n := if R.has i then R.n else R.n + 1 } else R
def RowM.clear {α : Type} (R : RowM α) : RowM α :=
  if R.now = 255 then { v := R.v, wh := List.replicate R.wh.length 0, now := 1, n := 0 } else { v := R.v, wh := R.wh, now := R.now + 1, n := 0 }
def RowM.new {α : Type} (z : α) (n : Nat) : RowM α := { v := List.replicate n z, wh := List.replicate n 0, now := 1, n := 0 }
def RowI (r : Nat) (R : RowM Int) : HProp := hex fun vv => hex fun wv => star [pt r (.cells #[vv, wv, .int .u8 R.now, .int .i64 R.n] 82 (0, 0)), arr 3 (Value.int .i64) vv R.v, arr 5 (Value.int .u8) wv R.wh]
theorem rowI_open {w : World} {r : Nat} {R : RowM Int} {L : List HProp} : Holds w (RowI r R :: L) ↔ ∃ vv wv, Holds w (pt r (.cells #[vv, wv, .int .u8 R.now, .int .i64 R.n] 82 (0, 0)) :: arr 3 (Value.int .i64) vv R.v :: arr 5 (Value.int .u8) wv R.wh :: L) := by
  unfold RowI
  simp only [Holds.hex, Holds.star, List.cons_append, List.nil_append]

theorem thereI_ct {w : World} {r : Nat} {vv wv a b : Value} {v : List Int} {i : Int} {L : List HProp} (H : Holds w (pt r (.cells #[vv, wv, a, b] 82 (0, 0)) :: arr 3 (Value.int .i64) vv v :: L)) :
    CT Try.prog 45 [.pointer (some ⟨r, 0, none⟩), .int .i64 i] w fun u w' => u = .bool (decide (0 ≤ i ∧ i < v.length)) ∧ Holds w' (pt r (.cells #[vv, wv, a, b] 82 (0, 0)) :: arr 3 (Value.int .i64) vv v :: L) := by
  refine CT.enter (N := 16) Try.func45 rfl rfl rfl rfl ?_
  refine W.seq (fun K0 hK0 => ?_)
  refine W.region ?_
  refine O.ex (Ex.assign rfl) rfl ?_
  refine O.nil ?_
  refine hK0 _ _ _ ?_
  refine W.seq (fun K1 hK1 => ?_)
  refine W.region ?_
  refine O.ex (Ex.move rfl) rfl ?_
  refine O.ex (Ex.geq rfl rfl) rfl ?_
  refine O.ex (Ex.move rfl) rfl ?_
  first | refine O.split_p (t := 7) rfl (fun h7 => ?_) (fun h7 => ?_) | refine O.split (t := 7) rfl (fun h7 => ?_) (fun h7 => ?_)
  · refine O.guard_t rfl rfl ?_
    refine O.ex (Ex.move rfl) rfl ?_
    refine O.guard_t rfl rfl ?_
    refine O.ex (Ex.move rfl) rfl ?_
    refine O.guard_t rfl rfl ?_
    refine O.ex (by first | exact Ex.nilPtr rfl | exact Ex.nilFunc rfl | exact Ex.nilYield rfl) rfl ?_
    refine O.guard_t rfl rfl ?_
    refine O.ex (by first | exact Ex.field0 fld82_0 rfl | exact Ex.field fld82_0 rfl | exact Ex.fieldS fld82_0 rfl) rfl ?_
    refine O.guard_t rfl rfl ?_
    refine O.ex (by first | exact Ex.loadP Try.isAgg52 rfl | exact Ex.loadR Try.isAgg52 rfl | exact Ex.loadIn1 Try.isAgg52 rfl (Holds.to (by assumption))) rfl ?_
    refine O.guard_t rfl rfl ?_
    refine O.ex (by first | exact Ex.lenR Try.runUnderlying52 rfl | exact Ex.lenIn Try.runUnderlying52 rfl | exact Ex.lenL Try.runUnderlying52 rfl | exact Ex.len rfl Try.runUnderlying52 rfl) rfl ?_
    refine O.guard_t rfl rfl ?_
    refine O.ex (Ex.lss rfl rfl) rfl ?_
    refine O.ex (Ex.pick_t rfl rfl) rfl ?_
    refine O.ex (Ex.assign rfl) rfl ?_
    refine O.nil ?_
    refine hK1 _ _ _ ?_
    refine W.ret ?_
    try dsimp only [thenQ, blockQ, retQ]
    first | refine ⟨_, ⟨_, _, rfl, rfl, rfl⟩, ?_⟩ | (refine retD_mark ?_; intro w H; refine ⟨_, ⟨_, _, rfl, rfl, rfl⟩, ?_⟩) | (refine retD_mark2 ?_; intro w H; refine ⟨_, ⟨_, _, rfl, rfl, rfl⟩, ?_⟩)
    exact ⟨by simp [*, oneOf], H⟩
  · refine O.guard_f rfl rfl rfl rfl ?_
    refine O.guard_f rfl rfl rfl rfl ?_
    refine O.guard_f rfl rfl rfl rfl ?_
    refine O.guard_f rfl rfl rfl rfl ?_
    refine O.guard_f rfl rfl rfl rfl ?_
    refine O.guard_f rfl rfl rfl rfl ?_
    refine O.guard_f rfl rfl rfl rfl ?_
    refine O.ex (Ex.pick_f rfl rfl) rfl ?_
    refine O.ex (Ex.assign rfl) rfl ?_
    refine O.nil ?_
    refine hK1 _ _ _ ?_
    refine W.ret ?_
    try dsimp only [thenQ, blockQ, retQ]
    first | refine ⟨_, ⟨_, _, rfl, rfl, rfl⟩, ?_⟩ | (refine retD_mark ?_; intro w H; refine ⟨_, ⟨_, _, rfl, rfl, rfl⟩, ?_⟩) | (refine retD_mark2 ?_; intro w H; refine ⟨_, ⟨_, _, rfl, rfl, rfl⟩, ?_⟩)
    exact ⟨by simp [*, oneOf], H⟩

theorem isI_ct {w : World} {r : Nat} {vv wv b : Value} {now : Int} {wh : List Int} {i : Int} {L : List HProp} (H : Holds w (pt r (.cells #[vv, wv, .int .u8 now, b] 82 (0, 0)) :: arr 5 (Value.int .u8) wv wh :: L)) (h0 : 0 ≤ i) (h1 : i < wh.length) :
    CT Try.prog 46 [.pointer (some ⟨r, 0, none⟩), .int .i64 i] w fun u w' => u = .bool (decide (wh.getD i.toNat 0 = now)) ∧ Holds w' (pt r (.cells #[vv, wv, .int .u8 now, b] 82 (0, 0)) :: arr 5 (Value.int .u8) wv wh :: L) := by
  refine CT.enter (N := 17) Try.func46 rfl rfl rfl rfl ?_
  refine W.seq (fun K0 hK0 => ?_)
  refine W.region ?_
  refine O.ex (Ex.assign rfl) rfl ?_
  refine O.nil ?_
  refine hK0 _ _ _ ?_
  refine W.seq (fun K1 hK1 => ?_)
  refine W.drawTo _ (.take 0 (.take 1 (.take 2 (.take 3 (.take 4 (.take 5 (.take 6 (.take 7 (.take 8 (.take 9 (.take 10 (.take 11 (.take 12 .nil))))))))))))) (mixed) (fun _ _ _ _ h => h) (by assumption) (PP.refl _) (by decide +kernel) (fun w H => ?_)
  refine OQ.ex rfl (fun w H => (Ex.move rfl)) rfl ?_
  refine OQ.ex rfl (fun w H => (by first | exact Ex.nilPtr rfl | exact Ex.nilFunc rfl | exact Ex.nilYield rfl)) rfl ?_
  refine OQ.ex rfl (fun w H => (by first | exact Ex.field0 fld82_1 rfl | exact Ex.field fld82_1 rfl | exact Ex.fieldS fld82_1 rfl)) rfl ?_
  refine OQ.ex rfl (fun w H => (by first | exact Ex.loadP Try.isAgg80 rfl | exact Ex.loadR Try.isAgg80 rfl | exact Ex.loadIn1 Try.isAgg80 rfl (Holds.to (by assumption)))) rfl ?_
  refine OQ.ex rfl (fun w H => (Ex.move rfl)) rfl ?_
  refine OQ.ex rfl (fun w H => (by first | exact Ex.idxR Try.runUnderlying80 Try.sizeOf5 rfl rfl | exact Ex.idxIn Try.runUnderlying80 Try.sizeOf5 rfl rfl | exact Ex.idxS Try.runUnderlying80 Try.sizeOf5 rfl rfl | exact Ex.idx Try.runUnderlying80 Try.sizeOf5 rfl rfl (by omega) (by omega))) rfl ?_
  refine OQ.ex rfl (fun w H => (by first | exact Ex.loadP Try.isAgg5 rfl | exact Ex.loadR Try.isAgg5 rfl | exact Ex.loadIn1 Try.isAgg5 rfl (Holds.to (by assumption)))) rfl ?_
  refine OQ.ex rfl (fun w H => (Ex.move rfl)) rfl ?_
  refine OQ.ex rfl (fun w H => (by first | exact Ex.nilPtr rfl | exact Ex.nilFunc rfl | exact Ex.nilYield rfl)) rfl ?_
  refine OQ.ex rfl (fun w H => (by first | exact Ex.field0 fld82_2 rfl | exact Ex.field fld82_2 rfl | exact Ex.fieldS fld82_2 rfl)) rfl ?_
  refine OQ.ex rfl (fun w H => (by first | exact Ex.loadP Try.isAgg5 rfl | exact Ex.loadR Try.isAgg5 rfl | exact Ex.loadIn1 Try.isAgg5 rfl (Holds.to (by assumption)))) rfl ?_
  refine OQ.ex rfl (fun w H => (Ex.eqlI rfl rfl)) rfl ?_
  refine OQ.ex rfl (fun w H => (Ex.assign rfl)) rfl ?_
  refine OQ.done ?_
  refine hK1 _ _ _ ?_
  refine W.ret ?_
  try dsimp only [thenQ, blockQ, retQ]
  first | refine ⟨_, ⟨_, _, rfl, rfl, rfl⟩, ?_⟩ | (refine retD_mark ?_; intro w H; refine ⟨_, ⟨_, _, rfl, rfl, rfl⟩, ?_⟩) | (refine retD_mark2 ?_; intro w H; refine ⟨_, ⟨_, _, rfl, rfl, rfl⟩, ?_⟩)
  exact ⟨rfl, by first | assumption | exact Holds.to (by assumption)⟩

theorem setI_ct {w : World} {r : Nat} {R : RowM Int} {i : Int} {x : Int} {L : List HProp} (H : Holds w (RowI r R :: L)) (hl : R.wh.length = R.v.length) (hn0 : 0 ≤ R.n) (hn1 : R.n ≤ 100) :
    CT Try.prog 13 [.pointer (some ⟨r, 0, none⟩), .int .i64 i, .int .i64 x] w fun u w' => u = .int .i64 (if 0 ≤ i ∧ i < R.v.length then 0 else 1) ∧ Holds w' (RowI r (R.set i x) :: L) := by
  obtain ⟨vv, wv, H⟩ := rowI_open.1 H
  refine CT.enter (N := 39) Try.func13 rfl rfl rfl rfl ?_
  refine W.seq (fun K0 hK0 => ?_)
  refine W.region ?_
  refine O.ex (Ex.assign rfl) rfl ?_
  refine O.nil ?_
  refine hK0 _ _ _ ?_
  refine W.seq (fun K1 hK1 => ?_)
  refine W.seq (fun K2 hK2 => ?_)
  refine W.region ?_
  refine O.ex (Ex.move rfl) rfl ?_
  refine O.ex (Ex.move rfl) rfl ?_
  refine O.callF Try.call45 rfl rfl (CT.mono (thereI_ct (Holds.to (by assumption))) ?_)
  rintro _ w ⟨rfl, H⟩
  refine O.ex (by first | exact Ex.notD rfl | exact Ex.not rfl) rfl ?_
  refine O.nil ?_
  refine hK2 _ _ _ ?_
  first | refine W.cond_p rfl (fun hno => ?_) (fun hyes => ?_) | refine W.cond_b rfl (fun hno => ?_) (fun hyes => ?_)
  · refine W.seq (fun K3 hK3 => ?_)
    refine W.region ?_
    refine O.ex (Ex.assign rfl) rfl ?_
    refine O.nil ?_
    refine hK3 _ _ _ ?_
    refine W.ret ?_
    try dsimp only [thenQ, blockQ, retQ]
    first | refine ⟨_, ⟨_, _, rfl, rfl, rfl⟩, ?_⟩ | (refine retD_mark ?_; intro w H; refine ⟨_, ⟨_, _, rfl, rfl, rfl⟩, ?_⟩) | (refine retD_mark2 ?_; intro w H; refine ⟨_, ⟨_, _, rfl, rfl, rfl⟩, ?_⟩)
    first
    | (refine ⟨by simp only [oneOf]; rw [if_neg (by omega)], ?_⟩
       rw [show R.set i x = R from if_neg (by omega)]
       exact rowI_open.2 ⟨vv, wv, Holds.to (by assumption)⟩)
    | (refine ⟨by simp only [oneOf]; rw [if_pos (by omega)], ?_⟩
       rw [show R.set i x = { v := R.v.set i.toNat x, wh := R.wh.set i.toNat R.now, now := R.now, n := R.n + 1 } from by unfold RowM.set; rw [if_pos (by omega), if_neg (by unfold RowM.has; omega)]]
       exact rowI_open.2 ⟨vv, wv, Holds.to (by assumption)⟩)
    | (refine ⟨by simp only [oneOf]; rw [if_pos (by omega)], ?_⟩
       rw [show R.set i x = { v := R.v.set i.toNat x, wh := R.wh.set i.toNat R.now, now := R.now, n := R.n } from by unfold RowM.set; rw [if_pos (by omega), if_pos (by unfold RowM.has; omega)]]
       exact rowI_open.2 ⟨vv, wv, Holds.to (by assumption)⟩)
  · refine W.skip ?_
    refine hK1 _ _ _ ?_
    refine W.seq (fun K4 hK4 => ?_)
    refine W.seq (fun K5 hK5 => ?_)
    refine W.region ?_
    refine O.ex (Ex.move rfl) rfl ?_
    refine O.ex (Ex.move rfl) rfl ?_
    refine O.callF Try.call46 rfl rfl (CT.mono (isI_ct (Holds.to (by assumption)) (by omega) (by omega)) ?_)
    rintro _ w ⟨rfl, H⟩
    refine O.ex (by first | exact Ex.notD rfl | exact Ex.not rfl) rfl ?_
    refine O.nil ?_
    refine hK5 _ _ _ ?_
    first | refine W.cond_p rfl (fun hnew => ?_) (fun hold => ?_) | refine W.cond_b rfl (fun hnew => ?_) (fun hold => ?_)
    · refine W.region ?_
      refine O.ex (Ex.move rfl) rfl ?_
      refine O.ex (by first | exact Ex.nilPtr rfl | exact Ex.nilFunc rfl | exact Ex.nilYield rfl) rfl ?_
      refine O.ex (by first | exact Ex.field0 fld82_3 rfl | exact Ex.field fld82_3 rfl | exact Ex.fieldS fld82_3 rfl) rfl ?_
      refine O.ex (by first | exact Ex.loadP Try.isAgg3 rfl | exact Ex.loadR Try.isAgg3 rfl | exact Ex.loadIn1 Try.isAgg3 rfl (Holds.to (by assumption))) rfl ?_
      refine O.ex (by first | exact Ex.addI rfl rfl | exact Ex.add rfl rfl rfl) rfl ?_
      refine O.ex (by first | exact Ex.nilPtr rfl | exact Ex.nilFunc rfl | exact Ex.nilYield rfl) rfl ?_
      refine O.ex (by first | exact Ex.field0 fld82_3 rfl | exact Ex.field fld82_3 rfl | exact Ex.fieldS fld82_3 rfl) rfl ?_
      first | refine O.storeP Try.sizeOf3 rfl rfl (fun w H => ?_) | refine O.storeR Try.sizeOf3 rfl rfl (fun w H => ?_)
      refine O.nil ?_
      refine hK4 _ _ _ ?_
      refine W.seq (fun K6 hK6 => ?_)
      have s1 := arr_sl (e := Value.int .i64) (v := vv) (xs := R.v) (Holds.to (by assumption)) (by omega)
      have s2 := arr_sl (e := Value.int .u8) (v := wv) (xs := R.wh) (Holds.to (by assumption)) (by omega)
      refine W.drawTo (pt r _ :: []) (.take 0 (.take 1 (.take 2 (.take 3 (.take 4 (.take 5 (.take 6 (.take 7 (.take 8 (.take 9 (.take 10 (.take 11 (.take 12 (.take 13 (.take 14 (.take 15 (.one 16 (.take 17 (.one 18 .nil))))))))))))))))))) (mixed) (fun _ _ _ _ h => h) (by assumption) PP.auto (by decide +kernel) (fun w H => ?_)
      refine OQ.ex rfl (fun w H => (Ex.move rfl)) rfl ?_
      refine OQ.ex rfl (fun w H => (by first | exact Ex.nilPtr rfl | exact Ex.nilFunc rfl | exact Ex.nilYield rfl)) rfl ?_
      refine OQ.ex rfl (fun w H => (by first | exact Ex.field0 fld82_0 rfl | exact Ex.field fld82_0 rfl | exact Ex.fieldS fld82_0 rfl)) rfl ?_
      refine OQ.ex rfl (fun w H => (by first | exact Ex.loadP Try.isAgg52 rfl | exact Ex.loadR Try.isAgg52 rfl | exact Ex.loadIn1 Try.isAgg52 rfl (Holds.to (by assumption)))) rfl ?_
      refine OQ.ex rfl (fun w H => (Ex.move rfl)) rfl ?_
      refine OQ.ex rfl (fun w H => (Ex.move rfl)) rfl ?_
      refine OQ.ex rfl (fun w H => (by first | exact Ex.nilPtr rfl | exact Ex.nilFunc rfl | exact Ex.nilYield rfl)) rfl ?_
      refine OQ.ex rfl (fun w H => (by first | exact Ex.field0 fld82_1 rfl | exact Ex.field fld82_1 rfl | exact Ex.fieldS fld82_1 rfl)) rfl ?_
      refine OQ.ex rfl (fun w H => (by first | exact Ex.loadP Try.isAgg80 rfl | exact Ex.loadR Try.isAgg80 rfl | exact Ex.loadIn1 Try.isAgg80 rfl (Holds.to (by assumption)))) rfl ?_
      refine OQ.ex rfl (fun w H => (Ex.move rfl)) rfl ?_
      refine OQ.ex rfl (fun w H => (Ex.move rfl)) rfl ?_
      refine OQ.ex rfl (fun w H => (Ex.move rfl)) rfl ?_
      refine OQ.ex rfl (fun w H => (by first | exact Ex.nilPtr rfl | exact Ex.nilFunc rfl | exact Ex.nilYield rfl)) rfl ?_
      refine OQ.ex rfl (fun w H => (by first | exact Ex.field0 fld82_2 rfl | exact Ex.field fld82_2 rfl | exact Ex.fieldS fld82_2 rfl)) rfl ?_
      refine OQ.ex rfl (fun w H => (by first | exact Ex.loadP Try.isAgg5 rfl | exact Ex.loadR Try.isAgg5 rfl | exact Ex.loadIn1 Try.isAgg5 rfl (Holds.to (by assumption)))) rfl ?_
      refine OQ.ex rfl (fun w H => (by first | exact Ex.idxR Try.runUnderlying52 Try.sizeOf3 rfl rfl | exact Ex.idxIn Try.runUnderlying52 Try.sizeOf3 rfl rfl | exact Ex.idxS Try.runUnderlying52 Try.sizeOf3 rfl rfl | exact Ex.idx Try.runUnderlying52 Try.sizeOf3 rfl rfl (by omega) (by omega))) rfl ?_
      refine OQ.step rfl ?_
      first | refine O.storeP Try.sizeOf3 rfl rfl (fun w H => ?_) | refine O.storeR Try.sizeOf3 rfl rfl (fun w H => ?_)
      refine O.thenNil ⟨(by first | exact Holds.to (by assumption) | assumption), ?_⟩
      refine OQ.ex rfl (fun w H => (by first | exact Ex.idxR Try.runUnderlying80 Try.sizeOf5 rfl rfl | exact Ex.idxIn Try.runUnderlying80 Try.sizeOf5 rfl rfl | exact Ex.idxS Try.runUnderlying80 Try.sizeOf5 rfl rfl | exact Ex.idx Try.runUnderlying80 Try.sizeOf5 rfl rfl (by omega) (by omega))) rfl ?_
      refine OQ.step rfl ?_
      first | refine O.storeP Try.sizeOf5 rfl rfl (fun w H => ?_) | refine O.storeR Try.sizeOf5 rfl rfl (fun w H => ?_)
      refine O.thenNil ⟨(by first | exact Holds.to (by assumption) | assumption), ?_⟩
      refine OQ.done ?_
      refine hK6 _ _ _ ?_
      refine W.seq (fun K7 hK7 => ?_)
      refine W.region ?_
      refine O.ex (Ex.assign rfl) rfl ?_
      refine O.nil ?_
      refine hK7 _ _ _ ?_
      refine W.ret ?_
      try dsimp only [thenQ, blockQ, retQ]
      first | refine ⟨_, ⟨_, _, rfl, rfl, rfl⟩, ?_⟩ | (refine retD_mark ?_; intro w H; refine ⟨_, ⟨_, _, rfl, rfl, rfl⟩, ?_⟩) | (refine retD_mark2 ?_; intro w H; refine ⟨_, ⟨_, _, rfl, rfl, rfl⟩, ?_⟩)
      first
      | (refine ⟨by simp only [oneOf]; rw [if_neg (by omega)], ?_⟩
         rw [show R.set i x = R from if_neg (by omega)]
         exact rowI_open.2 ⟨vv, wv, Holds.to (by assumption)⟩)
      | (refine ⟨by simp only [oneOf]; rw [if_pos (by omega)], ?_⟩
         rw [show R.set i x = { v := R.v.set i.toNat x, wh := R.wh.set i.toNat R.now, now := R.now, n := R.n + 1 } from by unfold RowM.set; rw [if_pos (by omega), if_neg (by unfold RowM.has; omega)]]
         exact rowI_open.2 ⟨vv, wv, Holds.to (by assumption)⟩)
      | (refine ⟨by simp only [oneOf]; rw [if_pos (by omega)], ?_⟩
         rw [show R.set i x = { v := R.v.set i.toNat x, wh := R.wh.set i.toNat R.now, now := R.now, n := R.n } from by unfold RowM.set; rw [if_pos (by omega), if_pos (by unfold RowM.has; omega)]]
         exact rowI_open.2 ⟨vv, wv, Holds.to (by assumption)⟩)
    · refine W.skip ?_
      refine hK4 _ _ _ ?_
      refine W.seq (fun K8 hK8 => ?_)
      have s1 := arr_sl (e := Value.int .i64) (v := vv) (xs := R.v) (Holds.to (by assumption)) (by omega)
      have s2 := arr_sl (e := Value.int .u8) (v := wv) (xs := R.wh) (Holds.to (by assumption)) (by omega)
      refine W.drawTo (pt r _ :: []) (.take 0 (.take 1 (.take 2 (.take 3 (.take 4 (.take 5 (.take 6 (.take 7 (.take 8 (.take 9 (.take 10 (.take 11 (.take 12 (.take 13 (.take 14 (.take 15 (.one 16 (.take 17 (.one 18 .nil))))))))))))))))))) (mixed) (fun _ _ _ _ h => h) (by assumption) PP.auto (by decide +kernel) (fun w H => ?_)
      refine OQ.ex rfl (fun w H => (Ex.move rfl)) rfl ?_
      refine OQ.ex rfl (fun w H => (by first | exact Ex.nilPtr rfl | exact Ex.nilFunc rfl | exact Ex.nilYield rfl)) rfl ?_
      refine OQ.ex rfl (fun w H => (by first | exact Ex.field0 fld82_0 rfl | exact Ex.field fld82_0 rfl | exact Ex.fieldS fld82_0 rfl)) rfl ?_
      refine OQ.ex rfl (fun w H => (by first | exact Ex.loadP Try.isAgg52 rfl | exact Ex.loadR Try.isAgg52 rfl | exact Ex.loadIn1 Try.isAgg52 rfl (Holds.to (by assumption)))) rfl ?_
      refine OQ.ex rfl (fun w H => (Ex.move rfl)) rfl ?_
      refine OQ.ex rfl (fun w H => (Ex.move rfl)) rfl ?_
      refine OQ.ex rfl (fun w H => (by first | exact Ex.nilPtr rfl | exact Ex.nilFunc rfl | exact Ex.nilYield rfl)) rfl ?_
      refine OQ.ex rfl (fun w H => (by first | exact Ex.field0 fld82_1 rfl | exact Ex.field fld82_1 rfl | exact Ex.fieldS fld82_1 rfl)) rfl ?_
      refine OQ.ex rfl (fun w H => (by first | exact Ex.loadP Try.isAgg80 rfl | exact Ex.loadR Try.isAgg80 rfl | exact Ex.loadIn1 Try.isAgg80 rfl (Holds.to (by assumption)))) rfl ?_
      refine OQ.ex rfl (fun w H => (Ex.move rfl)) rfl ?_
      refine OQ.ex rfl (fun w H => (Ex.move rfl)) rfl ?_
      refine OQ.ex rfl (fun w H => (Ex.move rfl)) rfl ?_
      refine OQ.ex rfl (fun w H => (by first | exact Ex.nilPtr rfl | exact Ex.nilFunc rfl | exact Ex.nilYield rfl)) rfl ?_
      refine OQ.ex rfl (fun w H => (by first | exact Ex.field0 fld82_2 rfl | exact Ex.field fld82_2 rfl | exact Ex.fieldS fld82_2 rfl)) rfl ?_
      refine OQ.ex rfl (fun w H => (by first | exact Ex.loadP Try.isAgg5 rfl | exact Ex.loadR Try.isAgg5 rfl | exact Ex.loadIn1 Try.isAgg5 rfl (Holds.to (by assumption)))) rfl ?_
      refine OQ.ex rfl (fun w H => (by first | exact Ex.idxR Try.runUnderlying52 Try.sizeOf3 rfl rfl | exact Ex.idxIn Try.runUnderlying52 Try.sizeOf3 rfl rfl | exact Ex.idxS Try.runUnderlying52 Try.sizeOf3 rfl rfl | exact Ex.idx Try.runUnderlying52 Try.sizeOf3 rfl rfl (by omega) (by omega))) rfl ?_
      refine OQ.step rfl ?_
      first | refine O.storeP Try.sizeOf3 rfl rfl (fun w H => ?_) | refine O.storeR Try.sizeOf3 rfl rfl (fun w H => ?_)
      refine O.thenNil ⟨(by first | exact Holds.to (by assumption) | assumption), ?_⟩
      refine OQ.ex rfl (fun w H => (by first | exact Ex.idxR Try.runUnderlying80 Try.sizeOf5 rfl rfl | exact Ex.idxIn Try.runUnderlying80 Try.sizeOf5 rfl rfl | exact Ex.idxS Try.runUnderlying80 Try.sizeOf5 rfl rfl | exact Ex.idx Try.runUnderlying80 Try.sizeOf5 rfl rfl (by omega) (by omega))) rfl ?_
      refine OQ.step rfl ?_
      first | refine O.storeP Try.sizeOf5 rfl rfl (fun w H => ?_) | refine O.storeR Try.sizeOf5 rfl rfl (fun w H => ?_)
      refine O.thenNil ⟨(by first | exact Holds.to (by assumption) | assumption), ?_⟩
      refine OQ.done ?_
      refine hK8 _ _ _ ?_
      refine W.seq (fun K9 hK9 => ?_)
      refine W.region ?_
      refine O.ex (Ex.assign rfl) rfl ?_
      refine O.nil ?_
      refine hK9 _ _ _ ?_
      refine W.ret ?_
      try dsimp only [thenQ, blockQ, retQ]
      first | refine ⟨_, ⟨_, _, rfl, rfl, rfl⟩, ?_⟩ | (refine retD_mark ?_; intro w H; refine ⟨_, ⟨_, _, rfl, rfl, rfl⟩, ?_⟩) | (refine retD_mark2 ?_; intro w H; refine ⟨_, ⟨_, _, rfl, rfl, rfl⟩, ?_⟩)
      first
      | (refine ⟨by simp only [oneOf]; rw [if_neg (by omega)], ?_⟩
         rw [show R.set i x = R from if_neg (by omega)]
         exact rowI_open.2 ⟨vv, wv, Holds.to (by assumption)⟩)
      | (refine ⟨by simp only [oneOf]; rw [if_pos (by omega)], ?_⟩
         rw [show R.set i x = { v := R.v.set i.toNat x, wh := R.wh.set i.toNat R.now, now := R.now, n := R.n + 1 } from by unfold RowM.set; rw [if_pos (by omega), if_neg (by unfold RowM.has; omega)]]
         exact rowI_open.2 ⟨vv, wv, Holds.to (by assumption)⟩)
      | (refine ⟨by simp only [oneOf]; rw [if_pos (by omega)], ?_⟩
         rw [show R.set i x = { v := R.v.set i.toNat x, wh := R.wh.set i.toNat R.now, now := R.now, n := R.n } from by unfold RowM.set; rw [if_pos (by omega), if_pos (by unfold RowM.has; omega)]]
         exact rowI_open.2 ⟨vv, wv, Holds.to (by assumption)⟩)

def RowS (r : Nat) (R : RowM ByteArray) : HProp := hex fun vv => hex fun wv => star [pt r (.cells #[vv, wv, .int .u8 R.now, .int .i64 R.n] 89 (0, 0)), arr 9 (Value.string) vv R.v, arr 5 (Value.int .u8) wv R.wh]
theorem rowS_open {w : World} {r : Nat} {R : RowM ByteArray} {L : List HProp} : Holds w (RowS r R :: L) ↔ ∃ vv wv, Holds w (pt r (.cells #[vv, wv, .int .u8 R.now, .int .i64 R.n] 89 (0, 0)) :: arr 9 (Value.string) vv R.v :: arr 5 (Value.int .u8) wv R.wh :: L) := by
  unfold RowS
  simp only [Holds.hex, Holds.star, List.cons_append, List.nil_append]

theorem thereS_ct {w : World} {r : Nat} {vv wv a b : Value} {v : List ByteArray} {i : Int} {L : List HProp} (H : Holds w (pt r (.cells #[vv, wv, a, b] 89 (0, 0)) :: arr 9 (Value.string) vv v :: L)) :
    CT Try.prog 50 [.pointer (some ⟨r, 0, none⟩), .int .i64 i] w fun u w' => u = .bool (decide (0 ≤ i ∧ i < v.length)) ∧ Holds w' (pt r (.cells #[vv, wv, a, b] 89 (0, 0)) :: arr 9 (Value.string) vv v :: L) := by
  refine CT.enter (N := 16) Try.func50 rfl rfl rfl rfl ?_
  refine W.seq (fun K0 hK0 => ?_)
  refine W.region ?_
  refine O.ex (Ex.assign rfl) rfl ?_
  refine O.nil ?_
  refine hK0 _ _ _ ?_
  refine W.seq (fun K1 hK1 => ?_)
  refine W.region ?_
  refine O.ex (Ex.move rfl) rfl ?_
  refine O.ex (Ex.geq rfl rfl) rfl ?_
  refine O.ex (Ex.move rfl) rfl ?_
  first | refine O.split_p (t := 7) rfl (fun h7 => ?_) (fun h7 => ?_) | refine O.split (t := 7) rfl (fun h7 => ?_) (fun h7 => ?_)
  · refine O.guard_t rfl rfl ?_
    refine O.ex (Ex.move rfl) rfl ?_
    refine O.guard_t rfl rfl ?_
    refine O.ex (Ex.move rfl) rfl ?_
    refine O.guard_t rfl rfl ?_
    refine O.ex (by first | exact Ex.nilPtr rfl | exact Ex.nilFunc rfl | exact Ex.nilYield rfl) rfl ?_
    refine O.guard_t rfl rfl ?_
    refine O.ex (by first | exact Ex.field0 fld89_0 rfl | exact Ex.field fld89_0 rfl | exact Ex.fieldS fld89_0 rfl) rfl ?_
    refine O.guard_t rfl rfl ?_
    refine O.ex (by first | exact Ex.loadP Try.isAgg47 rfl | exact Ex.loadR Try.isAgg47 rfl | exact Ex.loadIn1 Try.isAgg47 rfl (Holds.to (by assumption))) rfl ?_
    refine O.guard_t rfl rfl ?_
    refine O.ex (by first | exact Ex.lenR Try.runUnderlying47 rfl | exact Ex.lenIn Try.runUnderlying47 rfl | exact Ex.lenL Try.runUnderlying47 rfl | exact Ex.len rfl Try.runUnderlying47 rfl) rfl ?_
    refine O.guard_t rfl rfl ?_
    refine O.ex (Ex.lss rfl rfl) rfl ?_
    refine O.ex (Ex.pick_t rfl rfl) rfl ?_
    refine O.ex (Ex.assign rfl) rfl ?_
    refine O.nil ?_
    refine hK1 _ _ _ ?_
    refine W.ret ?_
    try dsimp only [thenQ, blockQ, retQ]
    first | refine ⟨_, ⟨_, _, rfl, rfl, rfl⟩, ?_⟩ | (refine retD_mark ?_; intro w H; refine ⟨_, ⟨_, _, rfl, rfl, rfl⟩, ?_⟩) | (refine retD_mark2 ?_; intro w H; refine ⟨_, ⟨_, _, rfl, rfl, rfl⟩, ?_⟩)
    exact ⟨by simp [*, oneOf], H⟩
  · refine O.guard_f rfl rfl rfl rfl ?_
    refine O.guard_f rfl rfl rfl rfl ?_
    refine O.guard_f rfl rfl rfl rfl ?_
    refine O.guard_f rfl rfl rfl rfl ?_
    refine O.guard_f rfl rfl rfl rfl ?_
    refine O.guard_f rfl rfl rfl rfl ?_
    refine O.guard_f rfl rfl rfl rfl ?_
    refine O.ex (Ex.pick_f rfl rfl) rfl ?_
    refine O.ex (Ex.assign rfl) rfl ?_
    refine O.nil ?_
    refine hK1 _ _ _ ?_
    refine W.ret ?_
    try dsimp only [thenQ, blockQ, retQ]
    first | refine ⟨_, ⟨_, _, rfl, rfl, rfl⟩, ?_⟩ | (refine retD_mark ?_; intro w H; refine ⟨_, ⟨_, _, rfl, rfl, rfl⟩, ?_⟩) | (refine retD_mark2 ?_; intro w H; refine ⟨_, ⟨_, _, rfl, rfl, rfl⟩, ?_⟩)
    exact ⟨by simp [*, oneOf], H⟩

theorem isS_ct {w : World} {r : Nat} {vv wv b : Value} {now : Int} {wh : List Int} {i : Int} {L : List HProp} (H : Holds w (pt r (.cells #[vv, wv, .int .u8 now, b] 89 (0, 0)) :: arr 5 (Value.int .u8) wv wh :: L)) (h0 : 0 ≤ i) (h1 : i < wh.length) :
    CT Try.prog 51 [.pointer (some ⟨r, 0, none⟩), .int .i64 i] w fun u w' => u = .bool (decide (wh.getD i.toNat 0 = now)) ∧ Holds w' (pt r (.cells #[vv, wv, .int .u8 now, b] 89 (0, 0)) :: arr 5 (Value.int .u8) wv wh :: L) := by
  refine CT.enter (N := 17) Try.func51 rfl rfl rfl rfl ?_
  refine W.seq (fun K0 hK0 => ?_)
  refine W.region ?_
  refine O.ex (Ex.assign rfl) rfl ?_
  refine O.nil ?_
  refine hK0 _ _ _ ?_
  refine W.seq (fun K1 hK1 => ?_)
  refine W.drawTo _ (.take 0 (.take 1 (.take 2 (.take 3 (.take 4 (.take 5 (.take 6 (.take 7 (.take 8 (.take 9 (.take 10 (.take 11 (.take 12 .nil))))))))))))) (mixed) (fun _ _ _ _ h => h) (by assumption) (PP.refl _) (by decide +kernel) (fun w H => ?_)
  refine OQ.ex rfl (fun w H => (Ex.move rfl)) rfl ?_
  refine OQ.ex rfl (fun w H => (by first | exact Ex.nilPtr rfl | exact Ex.nilFunc rfl | exact Ex.nilYield rfl)) rfl ?_
  refine OQ.ex rfl (fun w H => (by first | exact Ex.field0 fld89_1 rfl | exact Ex.field fld89_1 rfl | exact Ex.fieldS fld89_1 rfl)) rfl ?_
  refine OQ.ex rfl (fun w H => (by first | exact Ex.loadP Try.isAgg80 rfl | exact Ex.loadR Try.isAgg80 rfl | exact Ex.loadIn1 Try.isAgg80 rfl (Holds.to (by assumption)))) rfl ?_
  refine OQ.ex rfl (fun w H => (Ex.move rfl)) rfl ?_
  refine OQ.ex rfl (fun w H => (by first | exact Ex.idxR Try.runUnderlying80 Try.sizeOf5 rfl rfl | exact Ex.idxIn Try.runUnderlying80 Try.sizeOf5 rfl rfl | exact Ex.idxS Try.runUnderlying80 Try.sizeOf5 rfl rfl | exact Ex.idx Try.runUnderlying80 Try.sizeOf5 rfl rfl (by omega) (by omega))) rfl ?_
  refine OQ.ex rfl (fun w H => (by first | exact Ex.loadP Try.isAgg5 rfl | exact Ex.loadR Try.isAgg5 rfl | exact Ex.loadIn1 Try.isAgg5 rfl (Holds.to (by assumption)))) rfl ?_
  refine OQ.ex rfl (fun w H => (Ex.move rfl)) rfl ?_
  refine OQ.ex rfl (fun w H => (by first | exact Ex.nilPtr rfl | exact Ex.nilFunc rfl | exact Ex.nilYield rfl)) rfl ?_
  refine OQ.ex rfl (fun w H => (by first | exact Ex.field0 fld89_2 rfl | exact Ex.field fld89_2 rfl | exact Ex.fieldS fld89_2 rfl)) rfl ?_
  refine OQ.ex rfl (fun w H => (by first | exact Ex.loadP Try.isAgg5 rfl | exact Ex.loadR Try.isAgg5 rfl | exact Ex.loadIn1 Try.isAgg5 rfl (Holds.to (by assumption)))) rfl ?_
  refine OQ.ex rfl (fun w H => (Ex.eqlI rfl rfl)) rfl ?_
  refine OQ.ex rfl (fun w H => (Ex.assign rfl)) rfl ?_
  refine OQ.done ?_
  refine hK1 _ _ _ ?_
  refine W.ret ?_
  try dsimp only [thenQ, blockQ, retQ]
  first | refine ⟨_, ⟨_, _, rfl, rfl, rfl⟩, ?_⟩ | (refine retD_mark ?_; intro w H; refine ⟨_, ⟨_, _, rfl, rfl, rfl⟩, ?_⟩) | (refine retD_mark2 ?_; intro w H; refine ⟨_, ⟨_, _, rfl, rfl, rfl⟩, ?_⟩)
  exact ⟨rfl, by first | assumption | exact Holds.to (by assumption)⟩

theorem setS_ct {w : World} {r : Nat} {R : RowM ByteArray} {i : Int} {x : ByteArray} {L : List HProp} (H : Holds w (RowS r R :: L)) (hl : R.wh.length = R.v.length) (hn0 : 0 ≤ R.n) (hn1 : R.n ≤ 100) :
    CT Try.prog 25 [.pointer (some ⟨r, 0, none⟩), .int .i64 i, .string x] w fun u w' => u = .int .i64 (if 0 ≤ i ∧ i < R.v.length then 0 else 1) ∧ Holds w' (RowS r (R.set i x) :: L) := by
  obtain ⟨vv, wv, H⟩ := rowS_open.1 H
  refine CT.enter (N := 39) Try.func25 rfl rfl rfl rfl ?_
  refine W.seq (fun K0 hK0 => ?_)
  refine W.region ?_
  refine O.ex (Ex.assign rfl) rfl ?_
  refine O.nil ?_
  refine hK0 _ _ _ ?_
  refine W.seq (fun K1 hK1 => ?_)
  refine W.seq (fun K2 hK2 => ?_)
  refine W.region ?_
  refine O.ex (Ex.move rfl) rfl ?_
  refine O.ex (Ex.move rfl) rfl ?_
  refine O.callF Try.call50 rfl rfl (CT.mono (thereS_ct (Holds.to (by assumption))) ?_)
  rintro _ w ⟨rfl, H⟩
  refine O.ex (by first | exact Ex.notD rfl | exact Ex.not rfl) rfl ?_
  refine O.nil ?_
  refine hK2 _ _ _ ?_
  first | refine W.cond_p rfl (fun hno => ?_) (fun hyes => ?_) | refine W.cond_b rfl (fun hno => ?_) (fun hyes => ?_)
  · refine W.seq (fun K3 hK3 => ?_)
    refine W.region ?_
    refine O.ex (Ex.assign rfl) rfl ?_
    refine O.nil ?_
    refine hK3 _ _ _ ?_
    refine W.ret ?_
    try dsimp only [thenQ, blockQ, retQ]
    first | refine ⟨_, ⟨_, _, rfl, rfl, rfl⟩, ?_⟩ | (refine retD_mark ?_; intro w H; refine ⟨_, ⟨_, _, rfl, rfl, rfl⟩, ?_⟩) | (refine retD_mark2 ?_; intro w H; refine ⟨_, ⟨_, _, rfl, rfl, rfl⟩, ?_⟩)
    first
    | (refine ⟨by simp only [oneOf]; rw [if_neg (by omega)], ?_⟩
       rw [show R.set i x = R from if_neg (by omega)]
       exact rowS_open.2 ⟨vv, wv, Holds.to (by assumption)⟩)
    | (refine ⟨by simp only [oneOf]; rw [if_pos (by omega)], ?_⟩
       rw [show R.set i x = { v := R.v.set i.toNat x, wh := R.wh.set i.toNat R.now, now := R.now, n := R.n + 1 } from by unfold RowM.set; rw [if_pos (by omega), if_neg (by unfold RowM.has; omega)]]
       exact rowS_open.2 ⟨vv, wv, Holds.to (by assumption)⟩)
    | (refine ⟨by simp only [oneOf]; rw [if_pos (by omega)], ?_⟩
       rw [show R.set i x = { v := R.v.set i.toNat x, wh := R.wh.set i.toNat R.now, now := R.now, n := R.n } from by unfold RowM.set; rw [if_pos (by omega), if_pos (by unfold RowM.has; omega)]]
       exact rowS_open.2 ⟨vv, wv, Holds.to (by assumption)⟩)
  · refine W.skip ?_
    refine hK1 _ _ _ ?_
    refine W.seq (fun K4 hK4 => ?_)
    refine W.seq (fun K5 hK5 => ?_)
    refine W.region ?_
    refine O.ex (Ex.move rfl) rfl ?_
    refine O.ex (Ex.move rfl) rfl ?_
    refine O.callF Try.call51 rfl rfl (CT.mono (isS_ct (Holds.to (by assumption)) (by omega) (by omega)) ?_)
    rintro _ w ⟨rfl, H⟩
    refine O.ex (by first | exact Ex.notD rfl | exact Ex.not rfl) rfl ?_
    refine O.nil ?_
    refine hK5 _ _ _ ?_
    first | refine W.cond_p rfl (fun hnew => ?_) (fun hold => ?_) | refine W.cond_b rfl (fun hnew => ?_) (fun hold => ?_)
    · refine W.region ?_
      refine O.ex (Ex.move rfl) rfl ?_
      refine O.ex (by first | exact Ex.nilPtr rfl | exact Ex.nilFunc rfl | exact Ex.nilYield rfl) rfl ?_
      refine O.ex (by first | exact Ex.field0 fld89_3 rfl | exact Ex.field fld89_3 rfl | exact Ex.fieldS fld89_3 rfl) rfl ?_
      refine O.ex (by first | exact Ex.loadP Try.isAgg3 rfl | exact Ex.loadR Try.isAgg3 rfl | exact Ex.loadIn1 Try.isAgg3 rfl (Holds.to (by assumption))) rfl ?_
      refine O.ex (by first | exact Ex.addI rfl rfl | exact Ex.add rfl rfl rfl) rfl ?_
      refine O.ex (by first | exact Ex.nilPtr rfl | exact Ex.nilFunc rfl | exact Ex.nilYield rfl) rfl ?_
      refine O.ex (by first | exact Ex.field0 fld89_3 rfl | exact Ex.field fld89_3 rfl | exact Ex.fieldS fld89_3 rfl) rfl ?_
      first | refine O.storeP Try.sizeOf3 rfl rfl (fun w H => ?_) | refine O.storeR Try.sizeOf3 rfl rfl (fun w H => ?_)
      refine O.nil ?_
      refine hK4 _ _ _ ?_
      refine W.seq (fun K6 hK6 => ?_)
      have s1 := arr_sl (e := Value.string) (v := vv) (xs := R.v) (Holds.to (by assumption)) (by omega)
      have s2 := arr_sl (e := Value.int .u8) (v := wv) (xs := R.wh) (Holds.to (by assumption)) (by omega)
      refine W.drawTo (pt r _ :: []) (.take 0 (.take 1 (.take 2 (.take 3 (.take 4 (.take 5 (.take 6 (.take 7 (.take 8 (.take 9 (.take 10 (.take 11 (.take 12 (.take 13 (.take 14 (.take 15 (.one 16 (.take 17 (.one 18 .nil))))))))))))))))))) (mixed) (fun _ _ _ _ h => h) (by assumption) PP.auto (by decide +kernel) (fun w H => ?_)
      refine OQ.ex rfl (fun w H => (Ex.move rfl)) rfl ?_
      refine OQ.ex rfl (fun w H => (by first | exact Ex.nilPtr rfl | exact Ex.nilFunc rfl | exact Ex.nilYield rfl)) rfl ?_
      refine OQ.ex rfl (fun w H => (by first | exact Ex.field0 fld89_0 rfl | exact Ex.field fld89_0 rfl | exact Ex.fieldS fld89_0 rfl)) rfl ?_
      refine OQ.ex rfl (fun w H => (by first | exact Ex.loadP Try.isAgg47 rfl | exact Ex.loadR Try.isAgg47 rfl | exact Ex.loadIn1 Try.isAgg47 rfl (Holds.to (by assumption)))) rfl ?_
      refine OQ.ex rfl (fun w H => (Ex.move rfl)) rfl ?_
      refine OQ.ex rfl (fun w H => (Ex.move rfl)) rfl ?_
      refine OQ.ex rfl (fun w H => (by first | exact Ex.nilPtr rfl | exact Ex.nilFunc rfl | exact Ex.nilYield rfl)) rfl ?_
      refine OQ.ex rfl (fun w H => (by first | exact Ex.field0 fld89_1 rfl | exact Ex.field fld89_1 rfl | exact Ex.fieldS fld89_1 rfl)) rfl ?_
      refine OQ.ex rfl (fun w H => (by first | exact Ex.loadP Try.isAgg80 rfl | exact Ex.loadR Try.isAgg80 rfl | exact Ex.loadIn1 Try.isAgg80 rfl (Holds.to (by assumption)))) rfl ?_
      refine OQ.ex rfl (fun w H => (Ex.move rfl)) rfl ?_
      refine OQ.ex rfl (fun w H => (Ex.move rfl)) rfl ?_
      refine OQ.ex rfl (fun w H => (Ex.move rfl)) rfl ?_
      refine OQ.ex rfl (fun w H => (by first | exact Ex.nilPtr rfl | exact Ex.nilFunc rfl | exact Ex.nilYield rfl)) rfl ?_
      refine OQ.ex rfl (fun w H => (by first | exact Ex.field0 fld89_2 rfl | exact Ex.field fld89_2 rfl | exact Ex.fieldS fld89_2 rfl)) rfl ?_
      refine OQ.ex rfl (fun w H => (by first | exact Ex.loadP Try.isAgg5 rfl | exact Ex.loadR Try.isAgg5 rfl | exact Ex.loadIn1 Try.isAgg5 rfl (Holds.to (by assumption)))) rfl ?_
      refine OQ.ex rfl (fun w H => (by first | exact Ex.idxR Try.runUnderlying47 Try.sizeOf9 rfl rfl | exact Ex.idxIn Try.runUnderlying47 Try.sizeOf9 rfl rfl | exact Ex.idxS Try.runUnderlying47 Try.sizeOf9 rfl rfl | exact Ex.idx Try.runUnderlying47 Try.sizeOf9 rfl rfl (by omega) (by omega))) rfl ?_
      refine OQ.step rfl ?_
      first | refine O.storeP Try.sizeOf9 rfl rfl (fun w H => ?_) | refine O.storeR Try.sizeOf9 rfl rfl (fun w H => ?_)
      refine O.thenNil ⟨(by first | exact Holds.to (by assumption) | assumption), ?_⟩
      refine OQ.ex rfl (fun w H => (by first | exact Ex.idxR Try.runUnderlying80 Try.sizeOf5 rfl rfl | exact Ex.idxIn Try.runUnderlying80 Try.sizeOf5 rfl rfl | exact Ex.idxS Try.runUnderlying80 Try.sizeOf5 rfl rfl | exact Ex.idx Try.runUnderlying80 Try.sizeOf5 rfl rfl (by omega) (by omega))) rfl ?_
      refine OQ.step rfl ?_
      first | refine O.storeP Try.sizeOf5 rfl rfl (fun w H => ?_) | refine O.storeR Try.sizeOf5 rfl rfl (fun w H => ?_)
      refine O.thenNil ⟨(by first | exact Holds.to (by assumption) | assumption), ?_⟩
      refine OQ.done ?_
      refine hK6 _ _ _ ?_
      refine W.seq (fun K7 hK7 => ?_)
      refine W.region ?_
      refine O.ex (Ex.assign rfl) rfl ?_
      refine O.nil ?_
      refine hK7 _ _ _ ?_
      refine W.ret ?_
      try dsimp only [thenQ, blockQ, retQ]
      first | refine ⟨_, ⟨_, _, rfl, rfl, rfl⟩, ?_⟩ | (refine retD_mark ?_; intro w H; refine ⟨_, ⟨_, _, rfl, rfl, rfl⟩, ?_⟩) | (refine retD_mark2 ?_; intro w H; refine ⟨_, ⟨_, _, rfl, rfl, rfl⟩, ?_⟩)
      first
      | (refine ⟨by simp only [oneOf]; rw [if_neg (by omega)], ?_⟩
         rw [show R.set i x = R from if_neg (by omega)]
         exact rowS_open.2 ⟨vv, wv, Holds.to (by assumption)⟩)
      | (refine ⟨by simp only [oneOf]; rw [if_pos (by omega)], ?_⟩
         rw [show R.set i x = { v := R.v.set i.toNat x, wh := R.wh.set i.toNat R.now, now := R.now, n := R.n + 1 } from by unfold RowM.set; rw [if_pos (by omega), if_neg (by unfold RowM.has; omega)]]
         exact rowS_open.2 ⟨vv, wv, Holds.to (by assumption)⟩)
      | (refine ⟨by simp only [oneOf]; rw [if_pos (by omega)], ?_⟩
         rw [show R.set i x = { v := R.v.set i.toNat x, wh := R.wh.set i.toNat R.now, now := R.now, n := R.n } from by unfold RowM.set; rw [if_pos (by omega), if_pos (by unfold RowM.has; omega)]]
         exact rowS_open.2 ⟨vv, wv, Holds.to (by assumption)⟩)
    · refine W.skip ?_
      refine hK4 _ _ _ ?_
      refine W.seq (fun K8 hK8 => ?_)
      have s1 := arr_sl (e := Value.string) (v := vv) (xs := R.v) (Holds.to (by assumption)) (by omega)
      have s2 := arr_sl (e := Value.int .u8) (v := wv) (xs := R.wh) (Holds.to (by assumption)) (by omega)
      refine W.drawTo (pt r _ :: []) (.take 0 (.take 1 (.take 2 (.take 3 (.take 4 (.take 5 (.take 6 (.take 7 (.take 8 (.take 9 (.take 10 (.take 11 (.take 12 (.take 13 (.take 14 (.take 15 (.one 16 (.take 17 (.one 18 .nil))))))))))))))))))) (mixed) (fun _ _ _ _ h => h) (by assumption) PP.auto (by decide +kernel) (fun w H => ?_)
      refine OQ.ex rfl (fun w H => (Ex.move rfl)) rfl ?_
      refine OQ.ex rfl (fun w H => (by first | exact Ex.nilPtr rfl | exact Ex.nilFunc rfl | exact Ex.nilYield rfl)) rfl ?_
      refine OQ.ex rfl (fun w H => (by first | exact Ex.field0 fld89_0 rfl | exact Ex.field fld89_0 rfl | exact Ex.fieldS fld89_0 rfl)) rfl ?_
      refine OQ.ex rfl (fun w H => (by first | exact Ex.loadP Try.isAgg47 rfl | exact Ex.loadR Try.isAgg47 rfl | exact Ex.loadIn1 Try.isAgg47 rfl (Holds.to (by assumption)))) rfl ?_
      refine OQ.ex rfl (fun w H => (Ex.move rfl)) rfl ?_
      refine OQ.ex rfl (fun w H => (Ex.move rfl)) rfl ?_
      refine OQ.ex rfl (fun w H => (by first | exact Ex.nilPtr rfl | exact Ex.nilFunc rfl | exact Ex.nilYield rfl)) rfl ?_
      refine OQ.ex rfl (fun w H => (by first | exact Ex.field0 fld89_1 rfl | exact Ex.field fld89_1 rfl | exact Ex.fieldS fld89_1 rfl)) rfl ?_
      refine OQ.ex rfl (fun w H => (by first | exact Ex.loadP Try.isAgg80 rfl | exact Ex.loadR Try.isAgg80 rfl | exact Ex.loadIn1 Try.isAgg80 rfl (Holds.to (by assumption)))) rfl ?_
      refine OQ.ex rfl (fun w H => (Ex.move rfl)) rfl ?_
      refine OQ.ex rfl (fun w H => (Ex.move rfl)) rfl ?_
      refine OQ.ex rfl (fun w H => (Ex.move rfl)) rfl ?_
      refine OQ.ex rfl (fun w H => (by first | exact Ex.nilPtr rfl | exact Ex.nilFunc rfl | exact Ex.nilYield rfl)) rfl ?_
      refine OQ.ex rfl (fun w H => (by first | exact Ex.field0 fld89_2 rfl | exact Ex.field fld89_2 rfl | exact Ex.fieldS fld89_2 rfl)) rfl ?_
      refine OQ.ex rfl (fun w H => (by first | exact Ex.loadP Try.isAgg5 rfl | exact Ex.loadR Try.isAgg5 rfl | exact Ex.loadIn1 Try.isAgg5 rfl (Holds.to (by assumption)))) rfl ?_
      refine OQ.ex rfl (fun w H => (by first | exact Ex.idxR Try.runUnderlying47 Try.sizeOf9 rfl rfl | exact Ex.idxIn Try.runUnderlying47 Try.sizeOf9 rfl rfl | exact Ex.idxS Try.runUnderlying47 Try.sizeOf9 rfl rfl | exact Ex.idx Try.runUnderlying47 Try.sizeOf9 rfl rfl (by omega) (by omega))) rfl ?_
      refine OQ.step rfl ?_
      first | refine O.storeP Try.sizeOf9 rfl rfl (fun w H => ?_) | refine O.storeR Try.sizeOf9 rfl rfl (fun w H => ?_)
      refine O.thenNil ⟨(by first | exact Holds.to (by assumption) | assumption), ?_⟩
      refine OQ.ex rfl (fun w H => (by first | exact Ex.idxR Try.runUnderlying80 Try.sizeOf5 rfl rfl | exact Ex.idxIn Try.runUnderlying80 Try.sizeOf5 rfl rfl | exact Ex.idxS Try.runUnderlying80 Try.sizeOf5 rfl rfl | exact Ex.idx Try.runUnderlying80 Try.sizeOf5 rfl rfl (by omega) (by omega))) rfl ?_
      refine OQ.step rfl ?_
      first | refine O.storeP Try.sizeOf5 rfl rfl (fun w H => ?_) | refine O.storeR Try.sizeOf5 rfl rfl (fun w H => ?_)
      refine O.thenNil ⟨(by first | exact Holds.to (by assumption) | assumption), ?_⟩
      refine OQ.done ?_
      refine hK8 _ _ _ ?_
      refine W.seq (fun K9 hK9 => ?_)
      refine W.region ?_
      refine O.ex (Ex.assign rfl) rfl ?_
      refine O.nil ?_
      refine hK9 _ _ _ ?_
      refine W.ret ?_
      try dsimp only [thenQ, blockQ, retQ]
      first | refine ⟨_, ⟨_, _, rfl, rfl, rfl⟩, ?_⟩ | (refine retD_mark ?_; intro w H; refine ⟨_, ⟨_, _, rfl, rfl, rfl⟩, ?_⟩) | (refine retD_mark2 ?_; intro w H; refine ⟨_, ⟨_, _, rfl, rfl, rfl⟩, ?_⟩)
      first
      | (refine ⟨by simp only [oneOf]; rw [if_neg (by omega)], ?_⟩
         rw [show R.set i x = R from if_neg (by omega)]
         exact rowS_open.2 ⟨vv, wv, Holds.to (by assumption)⟩)
      | (refine ⟨by simp only [oneOf]; rw [if_pos (by omega)], ?_⟩
         rw [show R.set i x = { v := R.v.set i.toNat x, wh := R.wh.set i.toNat R.now, now := R.now, n := R.n + 1 } from by unfold RowM.set; rw [if_pos (by omega), if_neg (by unfold RowM.has; omega)]]
         exact rowS_open.2 ⟨vv, wv, Holds.to (by assumption)⟩)
      | (refine ⟨by simp only [oneOf]; rw [if_pos (by omega)], ?_⟩
         rw [show R.set i x = { v := R.v.set i.toNat x, wh := R.wh.set i.toNat R.now, now := R.now, n := R.n } from by unfold RowM.set; rw [if_pos (by omega), if_pos (by unfold RowM.has; omega)]]
         exact rowS_open.2 ⟨vv, wv, Holds.to (by assumption)⟩)

theorem getI_ct {w : World} {r : Nat} {R : RowM Int} {i : Int} {L : List HProp} (H : Holds w (RowI r R :: L)) (hl : R.wh.length = R.v.length) :
    CT Try.prog 43 [.pointer (some ⟨r, 0, none⟩), .int .i64 i] w fun u w' => u = .tuple #[.int .i64 (if R.has i then R.v.getD i.toNat default else (0 : Int)), .bool (decide (R.has i))] ∧ Holds w' (RowI r R :: L) := by
  obtain ⟨vv, wv, H⟩ := rowI_open.1 H
  refine CT.enter (N := 25) Try.func43 rfl rfl rfl rfl ?_
  refine W.seq (fun K0 hK0 => ?_)
  refine W.region ?_
  refine O.ex (Ex.assign rfl) rfl ?_
  refine O.ex (Ex.assign rfl) rfl ?_
  refine O.nil ?_
  refine hK0 _ _ _ ?_
  refine W.seq (fun K1 hK1 => ?_)
  refine W.seq (fun K2 hK2 => ?_)
  refine W.region ?_
  refine O.ex (Ex.move rfl) rfl ?_
  refine O.ex (Ex.move rfl) rfl ?_
  refine O.callF Try.call45 rfl rfl (CT.mono (thereI_ct (Holds.to (by assumption))) ?_)
  rintro _ w ⟨rfl, H⟩
  refine O.ex (by first | exact Ex.notD rfl | exact Ex.not rfl) rfl ?_
  refine O.ex (Ex.move rfl) rfl ?_
  first | refine O.split_p (t := 11) rfl (fun h11 => ?_) (fun h11 => ?_) | refine O.split (t := 11) rfl (fun h11 => ?_) (fun h11 => ?_)
  · refine O.guard_f rfl rfl rfl rfl ?_
    refine O.guard_f rfl rfl rfl rfl ?_
    refine O.guard_f rfl rfl rfl rfl ?_
    refine O.guard_f rfl rfl rfl rfl ?_
    refine O.ex (Ex.pick_t rfl rfl) rfl ?_
    refine O.nil ?_
    refine hK2 _ _ _ ?_
    refine W.cond_t rfl ?_
    refine W.seq (fun K3 hK3 => ?_)
    refine W.region ?_
    refine O.ex (Ex.assign rfl) rfl ?_
    refine O.nil ?_
    refine hK3 _ _ _ ?_
    refine W.seq (fun K4 hK4 => ?_)
    refine W.region ?_
    refine O.ex (Ex.move rfl) rfl ?_
    refine O.ex (Ex.assign rfl) rfl ?_
    refine O.ex (Ex.assign rfl) rfl ?_
    refine O.nil ?_
    refine hK4 _ _ _ ?_
    refine W.ret ?_
    try dsimp only [thenQ, blockQ, retQ]
    first | refine ⟨_, ⟨_, _, rfl, rfl, _, _, rfl, rfl, rfl⟩, ?_⟩ | (refine retD_mark ?_; intro w H; refine ⟨_, ⟨_, _, rfl, rfl, _, _, rfl, rfl, rfl⟩, ?_⟩) | (refine retD_mark2 ?_; intro w H; refine ⟨_, ⟨_, _, rfl, rfl, _, _, rfl, rfl, rfl⟩, ?_⟩)
    first
    | (have e : ¬ R.has i := by unfold RowM.has; omega
       refine ⟨by simp only [oneOf, if_neg e, decide_eq_false e], rowI_open.2 ⟨vv, wv, Holds.to (by assumption)⟩⟩)
    | (have e : R.has i := by unfold RowM.has; omega
       refine ⟨by simp only [oneOf, if_pos e, decide_eq_true e], rowI_open.2 ⟨vv, wv, Holds.to (by assumption)⟩⟩)
  · refine O.guard_t rfl rfl ?_
    refine O.ex (Ex.move rfl) rfl ?_
    refine O.guard_t rfl rfl ?_
    refine O.ex (Ex.move rfl) rfl ?_
    refine O.guard_t rfl rfl ?_
    refine O.callF Try.call46 rfl rfl (CT.mono (isI_ct (Holds.to (by assumption)) (by omega) (by omega)) ?_)
    rintro _ w ⟨rfl, H⟩
    refine O.guard_t rfl rfl ?_
    refine O.ex (by first | exact Ex.notD rfl | exact Ex.not rfl) rfl ?_
    refine O.ex (Ex.pick_f rfl rfl) rfl ?_
    refine O.nil ?_
    refine hK2 _ _ _ ?_
    first | refine W.cond_p rfl (fun h16 => ?_) (fun h16 => ?_) | refine W.cond_b rfl (fun h16 => ?_) (fun h16 => ?_)
    · refine W.seq (fun K5 hK5 => ?_)
      refine W.region ?_
      refine O.ex (Ex.assign rfl) rfl ?_
      refine O.nil ?_
      refine hK5 _ _ _ ?_
      refine W.seq (fun K6 hK6 => ?_)
      refine W.region ?_
      refine O.ex (Ex.move rfl) rfl ?_
      refine O.ex (Ex.assign rfl) rfl ?_
      refine O.ex (Ex.assign rfl) rfl ?_
      refine O.nil ?_
      refine hK6 _ _ _ ?_
      refine W.ret ?_
      try dsimp only [thenQ, blockQ, retQ]
      first | refine ⟨_, ⟨_, _, rfl, rfl, _, _, rfl, rfl, rfl⟩, ?_⟩ | (refine retD_mark ?_; intro w H; refine ⟨_, ⟨_, _, rfl, rfl, _, _, rfl, rfl, rfl⟩, ?_⟩) | (refine retD_mark2 ?_; intro w H; refine ⟨_, ⟨_, _, rfl, rfl, _, _, rfl, rfl, rfl⟩, ?_⟩)
      first
      | (have e : ¬ R.has i := by unfold RowM.has; omega
         refine ⟨by simp only [oneOf, if_neg e, decide_eq_false e], rowI_open.2 ⟨vv, wv, Holds.to (by assumption)⟩⟩)
      | (have e : R.has i := by unfold RowM.has; omega
         refine ⟨by simp only [oneOf, if_pos e, decide_eq_true e], rowI_open.2 ⟨vv, wv, Holds.to (by assumption)⟩⟩)
    · refine W.skip ?_
      refine hK1 _ _ _ ?_
      refine W.seq (fun K7 hK7 => ?_)
      refine W.region ?_
      refine O.ex (Ex.move rfl) rfl ?_
      refine O.ex (by first | exact Ex.nilPtr rfl | exact Ex.nilFunc rfl | exact Ex.nilYield rfl) rfl ?_
      refine O.ex (by first | exact Ex.field0 fld82_0 rfl | exact Ex.field fld82_0 rfl | exact Ex.fieldS fld82_0 rfl) rfl ?_
      refine O.ex (by first | exact Ex.loadP Try.isAgg52 rfl | exact Ex.loadR Try.isAgg52 rfl | exact Ex.loadIn1 Try.isAgg52 rfl (Holds.to (by assumption))) rfl ?_
      refine O.ex (Ex.move rfl) rfl ?_
      refine O.ex (by first | exact Ex.idxR Try.runUnderlying52 Try.sizeOf3 rfl rfl | exact Ex.idxIn Try.runUnderlying52 Try.sizeOf3 rfl rfl | exact Ex.idxS Try.runUnderlying52 Try.sizeOf3 rfl rfl | exact Ex.idx Try.runUnderlying52 Try.sizeOf3 rfl rfl (by omega) (by omega)) rfl ?_
      refine O.ex (by first | exact Ex.loadP Try.isAgg3 rfl | exact Ex.loadR Try.isAgg3 rfl | exact Ex.loadIn1 Try.isAgg3 rfl (Holds.to (by assumption))) rfl ?_
      refine O.ex (Ex.assign rfl) rfl ?_
      refine O.ex (Ex.assign rfl) rfl ?_
      refine O.nil ?_
      refine hK7 _ _ _ ?_
      refine W.ret ?_
      try dsimp only [thenQ, blockQ, retQ]
      first | refine ⟨_, ⟨_, _, rfl, rfl, _, _, rfl, rfl, rfl⟩, ?_⟩ | (refine retD_mark ?_; intro w H; refine ⟨_, ⟨_, _, rfl, rfl, _, _, rfl, rfl, rfl⟩, ?_⟩) | (refine retD_mark2 ?_; intro w H; refine ⟨_, ⟨_, _, rfl, rfl, _, _, rfl, rfl, rfl⟩, ?_⟩)
      first
      | (have e : ¬ R.has i := by unfold RowM.has; omega
         refine ⟨by simp only [oneOf, if_neg e, decide_eq_false e], rowI_open.2 ⟨vv, wv, Holds.to (by assumption)⟩⟩)
      | (have e : R.has i := by unfold RowM.has; omega
         refine ⟨by simp only [oneOf, if_pos e, decide_eq_true e], rowI_open.2 ⟨vv, wv, Holds.to (by assumption)⟩⟩)

theorem lenI_ct {w : World} {r : Nat} {R : RowM Int} {L : List HProp} (H : Holds w (RowI r R :: L)) :
    CT Try.prog 44 [.pointer (some ⟨r, 0, none⟩)] w fun u w' => u = .int .i64 R.n ∧ Holds w' (RowI r R :: L) := by
  obtain ⟨vv, wv, H⟩ := rowI_open.1 H
  refine CT.enter (N := 7) Try.func44 rfl rfl rfl rfl ?_
  refine W.seq (fun K0 hK0 => ?_)
  refine W.region ?_
  refine O.ex (Ex.assign rfl) rfl ?_
  refine O.nil ?_
  refine hK0 _ _ _ ?_
  refine W.seq (fun K1 hK1 => ?_)
  refine W.region ?_
  refine O.ex (Ex.move rfl) rfl ?_
  refine O.ex (by first | exact Ex.nilPtr rfl | exact Ex.nilFunc rfl | exact Ex.nilYield rfl) rfl ?_
  refine O.ex (by first | exact Ex.field0 fld82_3 rfl | exact Ex.field fld82_3 rfl | exact Ex.fieldS fld82_3 rfl) rfl ?_
  refine O.ex (by first | exact Ex.loadP Try.isAgg3 rfl | exact Ex.loadR Try.isAgg3 rfl | exact Ex.loadIn1 Try.isAgg3 rfl (Holds.to (by assumption))) rfl ?_
  refine O.ex (Ex.assign rfl) rfl ?_
  refine O.nil ?_
  refine hK1 _ _ _ ?_
  refine W.ret ?_
  try dsimp only [thenQ, blockQ, retQ]
  first | refine ⟨_, ⟨_, _, rfl, rfl, rfl⟩, ?_⟩ | (refine retD_mark ?_; intro w H; refine ⟨_, ⟨_, _, rfl, rfl, rfl⟩, ?_⟩) | (refine retD_mark2 ?_; intro w H; refine ⟨_, ⟨_, _, rfl, rfl, rfl⟩, ?_⟩)
  exact ⟨rfl, rowI_open.2 ⟨vv, wv, Holds.to (by assumption)⟩⟩

theorem clearI_ct {w : World} {r : Nat} {R : RowM Int} {L : List HProp} (H : Holds w (RowI r R :: L)) (h0 : 0 ≤ R.now) (h1 : R.now ≤ 255) :
    CT Try.prog 16 [.pointer (some ⟨r, 0, none⟩)] w fun u w' => u = .tuple #[] ∧ Holds w' (RowI r R.clear :: L) := by
  obtain ⟨vv, wv, H⟩ := rowI_open.1 H
  have hw : IntKind.u8.wrap (R.now + 1) = if R.now = 255 then 0 else R.now + 1 := by
    split
    · rename_i h; rw [h]; rfl
    · exact IntWalk.u8_in _ ⟨by omega, by omega⟩
  refine CT.enter (N := 24) Try.func16 rfl rfl rfl rfl ?_
  refine W.seq (fun K0 hK0 => ?_)
  refine W.region ?_
  refine O.ex (Ex.move rfl) rfl ?_
  refine O.ex (by first | exact Ex.nilPtr rfl | exact Ex.nilFunc rfl | exact Ex.nilYield rfl) rfl ?_
  refine O.ex (by first | exact Ex.field0 fld82_3 rfl | exact Ex.field fld82_3 rfl | exact Ex.fieldS fld82_3 rfl) rfl ?_
  first | refine O.storeP Try.sizeOf3 rfl rfl (fun w H => ?_) | refine O.storeR Try.sizeOf3 rfl rfl (fun w H => ?_)
  refine O.nil ?_
  refine hK0 _ _ _ ?_
  refine W.seq (fun K1 hK1 => ?_)
  refine W.region ?_
  refine O.ex (Ex.move rfl) rfl ?_
  refine O.ex (by first | exact Ex.nilPtr rfl | exact Ex.nilFunc rfl | exact Ex.nilYield rfl) rfl ?_
  refine O.ex (by first | exact Ex.field0 fld82_2 rfl | exact Ex.field fld82_2 rfl | exact Ex.fieldS fld82_2 rfl) rfl ?_
  refine O.ex (by first | exact Ex.loadP Try.isAgg5 rfl | exact Ex.loadR Try.isAgg5 rfl | exact Ex.loadIn1 Try.isAgg5 rfl (Holds.to (by assumption))) rfl ?_
  refine O.ex (Ex.add rfl rfl hw) rfl ?_
  refine O.ex (by first | exact Ex.nilPtr rfl | exact Ex.nilFunc rfl | exact Ex.nilYield rfl) rfl ?_
  refine O.ex (by first | exact Ex.field0 fld82_2 rfl | exact Ex.field fld82_2 rfl | exact Ex.fieldS fld82_2 rfl) rfl ?_
  first | refine O.storeP Try.sizeOf5 rfl rfl (fun w H => ?_) | refine O.storeR Try.sizeOf5 rfl rfl (fun w H => ?_)
  refine O.nil ?_
  refine hK1 _ _ _ ?_
  refine W.seq (fun K2 hK2 => ?_)
  refine W.region ?_
  refine O.ex (Ex.move rfl) rfl ?_
  refine O.ex (by first | exact Ex.nilPtr rfl | exact Ex.nilFunc rfl | exact Ex.nilYield rfl) rfl ?_
  refine O.ex (by first | exact Ex.field0 fld82_2 rfl | exact Ex.field fld82_2 rfl | exact Ex.fieldS fld82_2 rfl) rfl ?_
  refine O.ex (by first | exact Ex.loadP Try.isAgg5 rfl | exact Ex.loadR Try.isAgg5 rfl | exact Ex.loadIn1 Try.isAgg5 rfl (Holds.to (by assumption))) rfl ?_
  refine O.ex (Ex.eqlI rfl rfl) rfl ?_
  refine O.nil ?_
  refine hK2 _ _ _ ?_
  first | refine W.cond_p rfl (fun h16 => ?_) (fun h16 => ?_) | refine W.cond_b rfl (fun h16 => ?_) (fun h16 => ?_)
  · refine W.seq (fun K3 hK3 => ?_)
    refine W.region ?_
    refine O.ex (Ex.move rfl) rfl ?_
    refine O.ex (by first | exact Ex.nilPtr rfl | exact Ex.nilFunc rfl | exact Ex.nilYield rfl) rfl ?_
    refine O.ex (by first | exact Ex.field0 fld82_1 rfl | exact Ex.field fld82_1 rfl | exact Ex.fieldS fld82_1 rfl) rfl ?_
    refine O.ex (by first | exact Ex.loadP Try.isAgg80 rfl | exact Ex.loadR Try.isAgg80 rfl | exact Ex.loadIn1 Try.isAgg80 rfl (Holds.to (by assumption))) rfl ?_
    refine O.clearR (0 : Int) (e := Value.int .u8) Try.runUnderlying80 Try.zeroValue5 rfl (fun w H => ?_)
    refine O.nil ?_
    refine hK3 _ _ _ ?_
    refine W.region ?_
    refine O.ex (Ex.move rfl) rfl ?_
    refine O.ex (by first | exact Ex.nilPtr rfl | exact Ex.nilFunc rfl | exact Ex.nilYield rfl) rfl ?_
    refine O.ex (by first | exact Ex.field0 fld82_2 rfl | exact Ex.field fld82_2 rfl | exact Ex.fieldS fld82_2 rfl) rfl ?_
    first | refine O.storeP Try.sizeOf5 rfl rfl (fun w H => ?_) | refine O.storeR Try.sizeOf5 rfl rfl (fun w H => ?_)
    refine O.nil ?_
    try dsimp only [thenQ, blockQ, retQ]
    first | refine ⟨_, rfl, ?_⟩ | (refine retD_mark ?_; intro w H; refine ⟨_, rfl, ?_⟩) | (refine retD_mark2 ?_; intro w H; refine ⟨_, rfl, ?_⟩)
    first
    | (have e : R.now = 255 := by split at h16 <;> omega
       refine ⟨rfl, ?_⟩
       rw [show R.clear = { v := R.v, wh := List.replicate R.wh.length 0, now := 1, n := 0 } from if_pos e]
       exact rowI_open.2 ⟨vv, wv, Holds.to (by assumption)⟩)
    | (have e : ¬ R.now = 255 := by split at h16 <;> omega
       refine ⟨rfl, ?_⟩
       rw [if_neg e] at H
       rw [show R.clear = { v := R.v, wh := R.wh, now := R.now + 1, n := 0 } from if_neg e]
       exact rowI_open.2 ⟨vv, wv, Holds.to (by assumption)⟩)
  · refine W.skip ?_
    try dsimp only [thenQ, blockQ, retQ]
    first | refine ⟨_, rfl, ?_⟩ | (refine retD_mark ?_; intro w H; refine ⟨_, rfl, ?_⟩) | (refine retD_mark2 ?_; intro w H; refine ⟨_, rfl, ?_⟩)
    first
    | (have e : R.now = 255 := by split at h16 <;> omega
       refine ⟨rfl, ?_⟩
       rw [show R.clear = { v := R.v, wh := List.replicate R.wh.length 0, now := 1, n := 0 } from if_pos e]
       exact rowI_open.2 ⟨vv, wv, Holds.to (by assumption)⟩)
    | (have e : ¬ R.now = 255 := by split at h16 <;> omega
       refine ⟨rfl, ?_⟩
       rw [if_neg e] at H
       rw [show R.clear = { v := R.v, wh := R.wh, now := R.now + 1, n := 0 } from if_neg e]
       exact rowI_open.2 ⟨vv, wv, Holds.to (by assumption)⟩)

theorem newI_ct {w : World} {n : Int} {L : List HProp} (H : Holds w L) :
    CT Try.prog 11 [.int .i64 n] w fun u w' => (¬ (0 ≤ n ∧ n ≤ 64) ∧ u = .tuple #[.pointer none, .int .i64 1] ∧ Holds w' L) ∨
      ((0 ≤ n ∧ n ≤ 64) ∧ ∃ r, u = .tuple #[.pointer (some ⟨r, 0, none⟩), .int .i64 0] ∧ Holds w' (RowI r (RowM.new ((0 : Int) : Int) n.toNat) :: L)) := by
  refine CT.enter (N := 16) Try.func11 rfl rfl rfl rfl ?_
  refine W.seq (fun K0 hK0 => ?_)
  refine W.region ?_
  refine O.ex (Ex.assign rfl) rfl ?_
  refine O.ex (Ex.assign rfl) rfl ?_
  refine O.nil ?_
  refine hK0 _ _ _ ?_
  refine W.seq (fun K1 hK1 => ?_)
  refine W.seq (fun K2 hK2 => ?_)
  refine W.region ?_
  refine O.ex (Ex.move rfl) rfl ?_
  refine O.ex (Ex.lss rfl rfl) rfl ?_
  refine O.ex (Ex.move rfl) rfl ?_
  first | refine O.split_p (t := 6) rfl (fun h6 => ?_) (fun h6 => ?_) | refine O.split (t := 6) rfl (fun h6 => ?_) (fun h6 => ?_)
  · refine O.guard_f rfl rfl rfl rfl ?_
    refine O.guard_f rfl rfl rfl rfl ?_
    refine O.ex (Ex.pick_t rfl rfl) rfl ?_
    refine O.nil ?_
    refine hK2 _ _ _ ?_
    refine W.cond_t rfl ?_
    refine W.seq (fun K3 hK3 => ?_)
    refine W.region ?_
    refine O.ex (Ex.assign rfl) rfl ?_
    refine O.ex (Ex.assign rfl) rfl ?_
    refine O.nil ?_
    refine hK3 _ _ _ ?_
    refine W.ret ?_
    try dsimp only [thenQ, blockQ, retQ]
    first | refine ⟨_, ⟨_, _, rfl, rfl, _, _, rfl, rfl, rfl⟩, ?_⟩ | (refine retD_mark ?_; intro w H; refine ⟨_, ⟨_, _, rfl, rfl, _, _, rfl, rfl, rfl⟩, ?_⟩) | (refine retD_mark2 ?_; intro w H; refine ⟨_, ⟨_, _, rfl, rfl, _, _, rfl, rfl, rfl⟩, ?_⟩)
    first
    | exact .inl ⟨by omega, rfl, by assumption⟩
    | exact .inr ⟨by omega, _, rfl, rowI_open.2 ⟨_, _, Holds.to (by assumption)⟩⟩
  · refine O.guard_t rfl rfl ?_
    refine O.ex (Ex.move rfl) rfl ?_
    refine O.guard_t rfl rfl ?_
    refine O.ex (Ex.gtr rfl rfl) rfl ?_
    refine O.ex (Ex.pick_f rfl rfl) rfl ?_
    refine O.nil ?_
    refine hK2 _ _ _ ?_
    first | refine W.cond_p rfl (fun h9 => ?_) (fun h9 => ?_) | refine W.cond_b rfl (fun h9 => ?_) (fun h9 => ?_)
    · refine W.seq (fun K4 hK4 => ?_)
      refine W.region ?_
      refine O.ex (Ex.assign rfl) rfl ?_
      refine O.ex (Ex.assign rfl) rfl ?_
      refine O.nil ?_
      refine hK4 _ _ _ ?_
      refine W.ret ?_
      try dsimp only [thenQ, blockQ, retQ]
      first | refine ⟨_, ⟨_, _, rfl, rfl, _, _, rfl, rfl, rfl⟩, ?_⟩ | (refine retD_mark ?_; intro w H; refine ⟨_, ⟨_, _, rfl, rfl, _, _, rfl, rfl, rfl⟩, ?_⟩) | (refine retD_mark2 ?_; intro w H; refine ⟨_, ⟨_, _, rfl, rfl, _, _, rfl, rfl, rfl⟩, ?_⟩)
      first
      | exact .inl ⟨by omega, rfl, by assumption⟩
      | exact .inr ⟨by omega, _, rfl, rowI_open.2 ⟨_, _, Holds.to (by assumption)⟩⟩
    · refine W.skip ?_
      refine hK1 _ _ _ ?_
      refine W.seq (fun K5 hK5 => ?_)
      refine W.drawTo _ (.take 0 (.take 2 (.two 1 3 (.one 3 (.take 4 (.one 5 (.take 6 (.take 7 .nil))))) (.one 1 (.take 4 (.one 5 (.take 6 (.take 7 .nil)))))))) (mixed) (fun _ _ _ _ h => h) (by assumption) (PP.refl _) (by decide +kernel) (fun w H => ?_)
      refine OQ.ex rfl (fun w H => (Ex.move rfl)) rfl ?_
      refine OQ.ex rfl (fun w H => (Ex.move rfl)) rfl ?_
      refine OQ.two rfl rfl ?_ ?_
      · refine O.makeR (0 : Int) (e := Value.int .i64) (bt := 8) Try.runUnderlying52 Try.sizeOf3 Try.zeroValue3 Try.typeInfo3 rfl rfl rfl (fun s11 w hs11 H => ?_)
        refine O.thenNil ⟨(by first | exact Holds.to (by assumption) | assumption), ?_⟩
        refine OQ.step rfl ?_
        refine O.makeR (0 : Int) (e := Value.int .u8) (bt := 1) Try.runUnderlying80 Try.sizeOf5 Try.zeroValue5 Try.typeInfo5 rfl rfl rfl (fun s13 w hs13 H => ?_)
        refine O.thenNil ⟨(by first | exact Holds.to (by assumption) | assumption), ?_⟩
        refine OQ.ex rfl (fun w H => (Ex.build rfl (bld82_0_1_2 _ _ _ (by first | rfl | assumption) (by first | rfl | assumption) (by first | rfl | assumption)))) rfl ?_
        refine OQ.step rfl ?_
        refine O.boxP rfl (fun b15 w H => ?_)
        refine O.thenNil ⟨(by first | exact Holds.to (by assumption) | assumption), ?_⟩
        refine OQ.ex rfl (fun w H => (Ex.assign rfl)) rfl ?_
        refine OQ.ex rfl (fun w H => (Ex.assign rfl)) rfl ?_
        refine OQ.done ?_
        refine hK5 _ _ _ ?_
        refine W.ret ?_
        try dsimp only [thenQ, blockQ, retQ]
        first | refine ⟨_, ⟨_, _, rfl, rfl, _, _, rfl, rfl, rfl⟩, ?_⟩ | (refine retD_mark ?_; intro w H; refine ⟨_, ⟨_, _, rfl, rfl, _, _, rfl, rfl, rfl⟩, ?_⟩) | (refine retD_mark2 ?_; intro w H; refine ⟨_, ⟨_, _, rfl, rfl, _, _, rfl, rfl, rfl⟩, ?_⟩)
        first
        | exact .inl ⟨by omega, rfl, by assumption⟩
        | exact .inr ⟨by omega, _, rfl, rowI_open.2 ⟨_, _, Holds.to (by assumption)⟩⟩
      · refine O.makeR (0 : Int) (e := Value.int .u8) (bt := 1) Try.runUnderlying80 Try.sizeOf5 Try.zeroValue5 Try.typeInfo5 rfl rfl rfl (fun s13 w hs13 H => ?_)
        refine O.thenNil ⟨(by first | exact Holds.to (by assumption) | assumption), ?_⟩
        refine OQ.step rfl ?_
        refine O.makeR (0 : Int) (e := Value.int .i64) (bt := 8) Try.runUnderlying52 Try.sizeOf3 Try.zeroValue3 Try.typeInfo3 rfl rfl rfl (fun s11 w hs11 H => ?_)
        refine O.thenNil ⟨(by first | exact Holds.to (by assumption) | assumption), ?_⟩
        refine OQ.ex rfl (fun w H => (Ex.build rfl (bld82_0_1_2 _ _ _ (by first | rfl | assumption) (by first | rfl | assumption) (by first | rfl | assumption)))) rfl ?_
        refine OQ.step rfl ?_
        refine O.boxP rfl (fun b15 w H => ?_)
        refine O.thenNil ⟨(by first | exact Holds.to (by assumption) | assumption), ?_⟩
        refine OQ.ex rfl (fun w H => (Ex.assign rfl)) rfl ?_
        refine OQ.ex rfl (fun w H => (Ex.assign rfl)) rfl ?_
        refine OQ.done ?_
        refine hK5 _ _ _ ?_
        refine W.ret ?_
        try dsimp only [thenQ, blockQ, retQ]
        first | refine ⟨_, ⟨_, _, rfl, rfl, _, _, rfl, rfl, rfl⟩, ?_⟩ | (refine retD_mark ?_; intro w H; refine ⟨_, ⟨_, _, rfl, rfl, _, _, rfl, rfl, rfl⟩, ?_⟩) | (refine retD_mark2 ?_; intro w H; refine ⟨_, ⟨_, _, rfl, rfl, _, _, rfl, rfl, rfl⟩, ?_⟩)
        first
        | exact .inl ⟨by omega, rfl, by assumption⟩
        | exact .inr ⟨by omega, _, rfl, rowI_open.2 ⟨_, _, Holds.to (by assumption)⟩⟩
theorem newS_ct {w : World} {n : Int} {L : List HProp} (H : Holds w L) :
    CT Try.prog 24 [.int .i64 n] w fun u w' => (¬ (0 ≤ n ∧ n ≤ 64) ∧ u = .tuple #[.pointer none, .int .i64 1] ∧ Holds w' L) ∨
      ((0 ≤ n ∧ n ≤ 64) ∧ ∃ r, u = .tuple #[.pointer (some ⟨r, 0, none⟩), .int .i64 0] ∧ Holds w' (RowS r (RowM.new (ByteArray.empty : ByteArray) n.toNat) :: L)) := by
  refine CT.enter (N := 16) Try.func24 rfl rfl rfl rfl ?_
  refine W.seq (fun K0 hK0 => ?_)
  refine W.region ?_
  refine O.ex (Ex.assign rfl) rfl ?_
  refine O.ex (Ex.assign rfl) rfl ?_
  refine O.nil ?_
  refine hK0 _ _ _ ?_
  refine W.seq (fun K1 hK1 => ?_)
  refine W.seq (fun K2 hK2 => ?_)
  refine W.region ?_
  refine O.ex (Ex.move rfl) rfl ?_
  refine O.ex (Ex.lss rfl rfl) rfl ?_
  refine O.ex (Ex.move rfl) rfl ?_
  first | refine O.split_p (t := 6) rfl (fun h6 => ?_) (fun h6 => ?_) | refine O.split (t := 6) rfl (fun h6 => ?_) (fun h6 => ?_)
  · refine O.guard_f rfl rfl rfl rfl ?_
    refine O.guard_f rfl rfl rfl rfl ?_
    refine O.ex (Ex.pick_t rfl rfl) rfl ?_
    refine O.nil ?_
    refine hK2 _ _ _ ?_
    refine W.cond_t rfl ?_
    refine W.seq (fun K3 hK3 => ?_)
    refine W.region ?_
    refine O.ex (Ex.assign rfl) rfl ?_
    refine O.ex (Ex.assign rfl) rfl ?_
    refine O.nil ?_
    refine hK3 _ _ _ ?_
    refine W.ret ?_
    try dsimp only [thenQ, blockQ, retQ]
    first | refine ⟨_, ⟨_, _, rfl, rfl, _, _, rfl, rfl, rfl⟩, ?_⟩ | (refine retD_mark ?_; intro w H; refine ⟨_, ⟨_, _, rfl, rfl, _, _, rfl, rfl, rfl⟩, ?_⟩) | (refine retD_mark2 ?_; intro w H; refine ⟨_, ⟨_, _, rfl, rfl, _, _, rfl, rfl, rfl⟩, ?_⟩)
    first
    | exact .inl ⟨by omega, rfl, by assumption⟩
    | exact .inr ⟨by omega, _, rfl, rowS_open.2 ⟨_, _, Holds.to (by assumption)⟩⟩
  · refine O.guard_t rfl rfl ?_
    refine O.ex (Ex.move rfl) rfl ?_
    refine O.guard_t rfl rfl ?_
    refine O.ex (Ex.gtr rfl rfl) rfl ?_
    refine O.ex (Ex.pick_f rfl rfl) rfl ?_
    refine O.nil ?_
    refine hK2 _ _ _ ?_
    first | refine W.cond_p rfl (fun h9 => ?_) (fun h9 => ?_) | refine W.cond_b rfl (fun h9 => ?_) (fun h9 => ?_)
    · refine W.seq (fun K4 hK4 => ?_)
      refine W.region ?_
      refine O.ex (Ex.assign rfl) rfl ?_
      refine O.ex (Ex.assign rfl) rfl ?_
      refine O.nil ?_
      refine hK4 _ _ _ ?_
      refine W.ret ?_
      try dsimp only [thenQ, blockQ, retQ]
      first | refine ⟨_, ⟨_, _, rfl, rfl, _, _, rfl, rfl, rfl⟩, ?_⟩ | (refine retD_mark ?_; intro w H; refine ⟨_, ⟨_, _, rfl, rfl, _, _, rfl, rfl, rfl⟩, ?_⟩) | (refine retD_mark2 ?_; intro w H; refine ⟨_, ⟨_, _, rfl, rfl, _, _, rfl, rfl, rfl⟩, ?_⟩)
      first
      | exact .inl ⟨by omega, rfl, by assumption⟩
      | exact .inr ⟨by omega, _, rfl, rowS_open.2 ⟨_, _, Holds.to (by assumption)⟩⟩
    · refine W.skip ?_
      refine hK1 _ _ _ ?_
      refine W.seq (fun K5 hK5 => ?_)
      refine W.drawTo _ (.take 0 (.take 2 (.two 1 3 (.one 3 (.take 4 (.one 5 (.take 6 (.take 7 .nil))))) (.one 1 (.take 4 (.one 5 (.take 6 (.take 7 .nil)))))))) (mixed) (fun _ _ _ _ h => h) (by assumption) (PP.refl _) (by decide +kernel) (fun w H => ?_)
      refine OQ.ex rfl (fun w H => (Ex.move rfl)) rfl ?_
      refine OQ.ex rfl (fun w H => (Ex.move rfl)) rfl ?_
      refine OQ.two rfl rfl ?_ ?_
      · refine O.makeR ByteArray.empty (e := Value.string) (bt := 16) Try.runUnderlying47 Try.sizeOf9 Try.zeroValue9 Try.typeInfo9 rfl rfl rfl (fun s11 w hs11 H => ?_)
        refine O.thenNil ⟨(by first | exact Holds.to (by assumption) | assumption), ?_⟩
        refine OQ.step rfl ?_
        refine O.makeR (0 : Int) (e := Value.int .u8) (bt := 1) Try.runUnderlying80 Try.sizeOf5 Try.zeroValue5 Try.typeInfo5 rfl rfl rfl (fun s13 w hs13 H => ?_)
        refine O.thenNil ⟨(by first | exact Holds.to (by assumption) | assumption), ?_⟩
        refine OQ.ex rfl (fun w H => (Ex.build rfl (bld89_0_1_2 _ _ _ (by first | rfl | assumption) (by first | rfl | assumption) (by first | rfl | assumption)))) rfl ?_
        refine OQ.step rfl ?_
        refine O.boxP rfl (fun b15 w H => ?_)
        refine O.thenNil ⟨(by first | exact Holds.to (by assumption) | assumption), ?_⟩
        refine OQ.ex rfl (fun w H => (Ex.assign rfl)) rfl ?_
        refine OQ.ex rfl (fun w H => (Ex.assign rfl)) rfl ?_
        refine OQ.done ?_
        refine hK5 _ _ _ ?_
        refine W.ret ?_
        try dsimp only [thenQ, blockQ, retQ]
        first | refine ⟨_, ⟨_, _, rfl, rfl, _, _, rfl, rfl, rfl⟩, ?_⟩ | (refine retD_mark ?_; intro w H; refine ⟨_, ⟨_, _, rfl, rfl, _, _, rfl, rfl, rfl⟩, ?_⟩) | (refine retD_mark2 ?_; intro w H; refine ⟨_, ⟨_, _, rfl, rfl, _, _, rfl, rfl, rfl⟩, ?_⟩)
        first
        | exact .inl ⟨by omega, rfl, by assumption⟩
        | exact .inr ⟨by omega, _, rfl, rowS_open.2 ⟨_, _, Holds.to (by assumption)⟩⟩
      · refine O.makeR (0 : Int) (e := Value.int .u8) (bt := 1) Try.runUnderlying80 Try.sizeOf5 Try.zeroValue5 Try.typeInfo5 rfl rfl rfl (fun s13 w hs13 H => ?_)
        refine O.thenNil ⟨(by first | exact Holds.to (by assumption) | assumption), ?_⟩
        refine OQ.step rfl ?_
        refine O.makeR ByteArray.empty (e := Value.string) (bt := 16) Try.runUnderlying47 Try.sizeOf9 Try.zeroValue9 Try.typeInfo9 rfl rfl rfl (fun s11 w hs11 H => ?_)
        refine O.thenNil ⟨(by first | exact Holds.to (by assumption) | assumption), ?_⟩
        refine OQ.ex rfl (fun w H => (Ex.build rfl (bld89_0_1_2 _ _ _ (by first | rfl | assumption) (by first | rfl | assumption) (by first | rfl | assumption)))) rfl ?_
        refine OQ.step rfl ?_
        refine O.boxP rfl (fun b15 w H => ?_)
        refine O.thenNil ⟨(by first | exact Holds.to (by assumption) | assumption), ?_⟩
        refine OQ.ex rfl (fun w H => (Ex.assign rfl)) rfl ?_
        refine OQ.ex rfl (fun w H => (Ex.assign rfl)) rfl ?_
        refine OQ.done ?_
        refine hK5 _ _ _ ?_
        refine W.ret ?_
        try dsimp only [thenQ, blockQ, retQ]
        first | refine ⟨_, ⟨_, _, rfl, rfl, _, _, rfl, rfl, rfl⟩, ?_⟩ | (refine retD_mark ?_; intro w H; refine ⟨_, ⟨_, _, rfl, rfl, _, _, rfl, rfl, rfl⟩, ?_⟩) | (refine retD_mark2 ?_; intro w H; refine ⟨_, ⟨_, _, rfl, rfl, _, _, rfl, rfl, rfl⟩, ?_⟩)
        first
        | exact .inl ⟨by omega, rfl, by assumption⟩
        | exact .inr ⟨by omega, _, rfl, rowS_open.2 ⟨_, _, Holds.to (by assumption)⟩⟩
end Go.Proofs.Ytikdblejkmaloaa
