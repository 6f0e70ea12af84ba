import Derived.Test.YtakmbbgnnbpkoaaRing
import Derived.Test.YtakmbbgnnbpkoaaGraph4
--ARR
--LOADS loadN
namespace Go.Proofs.Ytakmbbgnnbpkoaa
open Go.Rr Go Gr
set_option linter.unusedVariables false
/-- What undoes a change: where its function's variables lie, and its arc. -/
structure BkM where
  f : Option (Nat × Nat × Nat)
  a : Arc
def BkM.z : BkM := ⟨none, Arc.zero⟩
instance : Inhabited BkM := ⟨BkM.z⟩
def bkF : Option (Nat × Nat × Nat) → Value
  | none => .nilFunc
  | some (b6, b3, b8) => .func (.func 101) #[] #[.pointer (some ⟨b6, 0, none⟩), .pointer (some ⟨b3, 0, none⟩), .pointer (some ⟨b8, 0, none⟩)]
theorem bkF_one (f : Option (Nat × Nat × Nat)) : (bkF f).oneCell' = true := by cases f <;> rfl
def BkM.enc (x : BkM) : List Value := [bkF x.f, .int .i64 x.a.t, .int .i64 x.a.h, .int .i64 x.a.w, .bool x.a.cl]
abbrev BkM.val (x : BkM) : Value := .agg x.enc.toArray
theorem BkM.all1 (x : BkM) : x.enc.toArray.toList.all Value.oneCell' = true := by
  show ((bkF x.f).oneCell' && _) = true
  rw [bkF_one]; rfl
abbrev bc (x : BkM) : Array Value := #[bkF x.f, .int .i64 x.a.t, .int .i64 x.a.h, .int .i64 x.a.w, .bool x.a.cl]
abbrev bzc : Array Value := #[.nilFunc, .int .i64 0, .int .i64 0, .int .i64 0, .bool false]
abbrev bks (v : Value) (xs : List BkM) : HProp := arrN 141 5 BkM.enc v xs
theorem placeB_ct {w : World} {s : Nat} {vv : Value} {at_ : List BkM} {f n i : Int} {k : Nat} {L : List HProp} (H : Holds w (pt s (.cells #[vv, .int .i64 f, .int .i64 n] 170 (0, 0)) :: bks vv at_ :: L)) (h0 : 0 < at_.length) (h1 : at_.length ≤ 1000) (f0 : 0 ≤ f) (f1 : f ≤ 1000) (i0 : 0 ≤ i) (i1 : i ≤ 1000) (hk : at_.length = k) :
    CT Try.prog 119 [.pointer (some ⟨s, 0, none⟩), .int .i64 i] w fun u w' => u = .int .i64 ((f + i) % k) ∧ Holds w' (pt s (.cells #[vv, .int .i64 f, .int .i64 n] 170 (0, 0)) :: bks vv at_ :: L) := by
  subst hk
  refine CT.enter (N := 17) Try.func119 rfl rfl rfl rfl ?_
  refine W.seq (fun K0 hK0 => ?_)
  refine W.region ?_
  refine O.ex (Ex.assign rfl) rfl ?_
  refine O.nil ?_
  refine hK0 _ _ _ ?_
  refine W.seq (fun K1 hK1 => ?_)
  refine W.drawTo _ (.take 0 (.take 1 (.take 2 (.take 3 (.take 4 (.take 5 (.take 6 (.take 7 (.take 8 (.take 9 (.take 10 (.take 11 (.take 12 .nil))))))))))))) (mixed) (fun _ _ _ _ h => h) (by assumption) (PP.refl _) (by decide +kernel) (fun w H => ?_)
  refine OQ.ex rfl (fun w H => (Ex.move rfl)) rfl ?_
  refine OQ.ex rfl (fun w H => (by first | exact Ex.nilPtr rfl | exact Ex.nilFunc rfl | exact Ex.nilYield rfl)) rfl ?_
  refine OQ.ex rfl (fun w H => (by first | exact Ex.field0 fld170_1 rfl | exact Ex.field fld170_1 rfl | exact Ex.fieldS fld170_1 rfl)) rfl ?_
  refine OQ.ex rfl (fun w H => (by first | exact Ex.loadN Try.isAgg3 rfl | exact Ex.loadMh Try.isAgg3 rfl | exact Ex.loadP Try.isAgg3 rfl | exact Ex.loadM Try.isAgg3 rfl | exact Ex.loadIn1 Try.isAgg3 rfl (Holds.to (by assumption)) | exact Ex.loadVc Try.isAgg3 rfl | exact Ex.loadR Try.isAgg3 rfl | exact Ex.loadQ Try.isAgg3 rfl)) rfl ?_
  refine OQ.ex rfl (fun w H => (Ex.move rfl)) rfl ?_
  refine OQ.ex rfl (fun w H => (by first | exact Ex.addI rfl rfl | exact Ex.add rfl rfl rfl)) rfl ?_
  refine OQ.ex rfl (fun w H => (Ex.move rfl)) rfl ?_
  refine OQ.ex rfl (fun w H => (by first | exact Ex.nilPtr rfl | exact Ex.nilFunc rfl | exact Ex.nilYield rfl)) rfl ?_
  refine OQ.ex rfl (fun w H => (by first | exact Ex.field0 fld170_0 rfl | exact Ex.field fld170_0 rfl | exact Ex.fieldS fld170_0 rfl)) rfl ?_
  refine OQ.ex rfl (fun w H => (by first | exact Ex.loadN Try.isAgg168 rfl | exact Ex.loadMh Try.isAgg168 rfl | exact Ex.loadP Try.isAgg168 rfl | exact Ex.loadM Try.isAgg168 rfl | exact Ex.loadIn1 Try.isAgg168 rfl (Holds.to (by assumption)) | exact Ex.loadVc Try.isAgg168 rfl | exact Ex.loadR Try.isAgg168 rfl | exact Ex.loadQ Try.isAgg168 rfl)) rfl ?_
  refine OQ.ex rfl (fun w H => (by first | exact Ex.lenN Try.runUnderlying168 rfl | exact Ex.lenIn Try.runUnderlying168 rfl | exact Ex.lenL Try.runUnderlying168 rfl | exact Ex.len rfl Try.runUnderlying168 rfl)) rfl ?_
  refine OQ.ex rfl (fun w H => (by first | exact Ex.remI rfl rfl | exact Ex.rem rfl rfl (by omega) rfl)) rfl ?_
  refine OQ.ex rfl (fun w H => (Ex.assign rfl)) rfl ?_
  refine OQ.done ?_
  refine hK1 _ _ _ ?_
  refine W.ret ?_
  try dsimp only [thenQ, blockQ, retQ]
  first | refine ⟨_, ⟨_, _, rfl, rfl, rfl⟩, ?_⟩ | (refine retD_mark ?_; intro w H; refine ⟨_, ⟨_, _, rfl, rfl, rfl⟩, ?_⟩) | (refine retD_mark2 ?_; intro w H; refine ⟨_, ⟨_, _, rfl, rfl, rfl⟩, ?_⟩)
  exact ⟨rfl, by first | assumption | exact Holds.to (by assumption)⟩
set_option maxHeartbeats 400000 in
theorem out1B_ct {w : World} {vv : Value} {at_ : List BkM} {j : Nat} {L : List HProp} (H : Holds w (bks vv at_ :: L)) (h : j < at_.length) :
    CT Try.prog 138 [.pointer (some (aAt vv (j * 5)))] w fun u w' => u = (at_.getD j default).val ∧ Holds w' (bks vv (at_.set j BkM.z) :: L) := by
  refine CT.enter (N := 12) Try.func138 rfl rfl rfl rfl ?_
  refine W.seq (fun K0 hK0 => ?_)
  refine W.region ?_
  refine O.allocP Try.zeroValue141 (fun b2 w H => ?_)
  have H : Holds w (pt b2 (.cells bzc 141 (0, 0)) :: bks vv at_ :: L) := H
  refine O.nil ?_
  refine hK0 _ _ _ ?_
  refine W.seq (fun K1 hK1 => ?_)
  refine W.region ?_
  refine O.allocP Try.zeroValue141 (fun b3 w H => ?_)
  have H : Holds w (pt b3 (.cells bzc 141 (0, 0)) :: pt b2 (.cells bzc 141 (0, 0)) :: bks vv at_ :: L) := H
  refine O.nil ?_
  refine hK1 _ _ _ ?_
  refine W.seq (fun K2 hK2 => ?_)
  refine W.region ?_
  refine O.ex (Ex.move rfl) rfl ?_
  refine O.ex (by first | exact Ex.nilPtr rfl | exact Ex.nilFunc rfl | exact Ex.nilYield rfl) rfl ?_
  refine O.ex (Ex.loadAggN (i := j) Try.isAgg141 Try.sizeOf141 rfl (Holds.to (M := bks vv at_ :: _) (by assumption)) (by intro _; rfl) h) rfl ?_
  refine O.allocP Try.zeroValue141 (fun b4 w H => ?_)
  refine O.storeAggP Try.sizeOf141 rfl rfl rfl (BkM.all1 _) (fun w H => ?_)
  have H : Holds w (pt b4 (.cells (bc (at_.getD j default)) 141 (0, 0)) :: pt b3 (.cells bzc 141 (0, 0)) :: pt b2 (.cells bzc 141 (0, 0)) :: bks vv at_ :: L) := H
  refine O.nil ?_
  refine hK2 _ _ _ ?_
  refine W.seq (fun K3 hK3 => ?_)
  refine W.region ?_
  refine O.ex (Ex.move rfl) rfl ?_
  refine O.ex (by first | exact Ex.loadAggP Try.isAgg141 Try.sizeOf141 rfl | exact Ex.loadAggN Try.isAgg141 Try.sizeOf141 rfl | exact Ex.loadIn Try.isAgg141 Try.sizeOf141 rfl (Holds.to (by assumption))) rfl ?_
  refine O.ex (by first | exact Ex.nilPtr rfl | exact Ex.nilFunc rfl | exact Ex.nilYield rfl) rfl ?_
  refine O.storeAggN (i := j) (z := BkM.z) Try.sizeOf141 rfl rfl rfl (fun w H => ?_) rfl (Holds.to (M := bks vv at_ :: _) (by assumption)) (by intro _; rfl) h
  have H : Holds w (bks vv (at_.set j BkM.z) :: pt b4 (.cells (bc (at_.getD j default)) 141 (0, 0)) :: pt b3 (.cells bzc 141 (0, 0)) :: pt b2 (.cells bzc 141 (0, 0)) :: L) := H
  refine O.nil ?_
  refine hK3 _ _ _ ?_
  refine W.seq (fun K4 hK4 => ?_)
  refine W.region ?_
  refine O.ex (by first | exact Ex.loadAggP Try.isAgg141 Try.sizeOf141 rfl | exact Ex.loadAggN Try.isAgg141 Try.sizeOf141 rfl | exact Ex.loadIn Try.isAgg141 Try.sizeOf141 rfl (Holds.to (by assumption))) rfl ?_
  refine O.storeAggP Try.sizeOf141 rfl rfl rfl (BkM.all1 (at_.getD j default)) (fun w H => ?_)
  have H : Holds w (pt b2 (.cells (bc (at_.getD j default)) 141 (0, 0)) :: bks vv (at_.set j BkM.z) :: L) := Holds.to H
  refine O.nil ?_
  refine hK4 _ _ _ ?_
  refine W.ret ?_
  try dsimp only [thenQ, blockQ, retQ]
  first | refine ⟨_, ⟨_, _, _, rfl, rfl, (by first | exact loadVar_mtx Try.isAgg141 Try.sizeOf141 | exact loadVar_agg Try.isAgg141 Try.sizeOf141), rfl⟩, ?_⟩ | (refine retD_mark ?_; intro w H; refine ⟨_, ⟨_, _, _, rfl, rfl, (by first | exact loadVar_mtx Try.isAgg141 Try.sizeOf141 | exact loadVar_agg Try.isAgg141 Try.sizeOf141), rfl⟩, ?_⟩) | (refine retD_mark2 ?_; intro w H; refine ⟨_, ⟨_, _, _, rfl, rfl, (by first | exact loadVar_mtx Try.isAgg141 Try.sizeOf141 | exact loadVar_agg Try.isAgg141 Try.sizeOf141), rfl⟩, ?_⟩)
  exact ⟨rfl, by first | assumption | exact Holds.to (by assumption)⟩
theorem outB_ct {w : World} {s : Nat} {vv a b : Value} {at_ : List BkM} {i : Int} {L : List HProp} (H : Holds w (pt s (.cells #[vv, a, b] 170 (0, 0)) :: bks vv at_ :: L)) (h0 : 0 ≤ i) (h1 : i < at_.length) :
    CT Try.prog 118 [.pointer (some ⟨s, 0, none⟩), .int .i64 i] w fun u w' => u = (at_.getD i.toNat default).val ∧ Holds w' (pt s (.cells #[vv, a, b] 170 (0, 0)) :: bks vv (at_.set i.toNat BkM.z) :: L) := by
  refine CT.enter (N := 14) Try.func118 rfl rfl rfl rfl ?_
  refine W.seq (fun K0 hK0 => ?_)
  refine W.region ?_
  refine O.allocP Try.zeroValue141 (fun b4 w H => ?_)
  have H : Holds w (pt b4 (.cells bzc 141 (0, 0)) :: pt s (.cells #[vv, a, b] 170 (0, 0)) :: bks vv at_ :: L) := H
  refine O.nil ?_
  refine hK0 _ _ _ ?_
  refine W.seq (fun K1 hK1 => ?_)
  refine W.region ?_
  refine O.ex (Ex.assign rfl) rfl ?_
  refine O.nil ?_
  refine hK1 _ _ _ ?_
  refine W.seq (fun K2 hK2 => ?_)
  refine W.region ?_
  refine O.ex (Ex.move rfl) rfl ?_
  refine O.ex (Ex.move rfl) rfl ?_
  refine O.ex (by first | exact Ex.nilPtr rfl | exact Ex.nilFunc rfl | exact Ex.nilYield rfl) rfl ?_
  refine O.ex (by first | exact Ex.field0 fld170_0 rfl | exact Ex.field fld170_0 rfl | exact Ex.fieldS fld170_0 rfl) rfl ?_
  refine O.ex (by first | exact Ex.loadN Try.isAgg168 rfl | exact Ex.loadMh Try.isAgg168 rfl | exact Ex.loadP Try.isAgg168 rfl | exact Ex.loadM Try.isAgg168 rfl | exact Ex.loadIn1 Try.isAgg168 rfl (Holds.to (by assumption)) | exact Ex.loadVc Try.isAgg168 rfl | exact Ex.loadR Try.isAgg168 rfl | exact Ex.loadQ Try.isAgg168 rfl) rfl ?_
  refine O.ex (Ex.move rfl) rfl ?_
  refine O.ex (by first | exact Ex.idxN Try.runUnderlying168 Try.sizeOf141 rfl rfl | exact Ex.idxSN Try.runUnderlying168 Try.sizeOf141 rfl rfl | exact Ex.idxIn Try.runUnderlying168 Try.sizeOf141 rfl rfl | exact Ex.idx Try.runUnderlying168 Try.sizeOf141 rfl rfl (by omega) (by omega)) rfl ?_
  refine O.callV Try.call138 rfl rfl rfl (CT.mono (out1B_ct (Holds.to (M := bks vv at_ :: _) (by assumption)) (by omega)) ?_)
  rintro _ w ⟨rfl, H⟩
  refine O.storeAggP Try.sizeOf141 rfl rfl rfl (BkM.all1 (at_.getD i.toNat default)) (fun w H => ?_) (Holds.to (M := pt b4 (.cells bzc 141 (0, 0)) :: _) (by assumption))
  have H : Holds w (pt b4 (.cells (bc (at_.getD i.toNat default)) 141 (0, 0)) :: pt s (.cells #[vv, a, b] 170 (0, 0)) :: bks vv (at_.set i.toNat BkM.z) :: L) := Holds.to H
  refine O.nil ?_
  refine hK2 _ _ _ ?_
  refine W.ret ?_
  try dsimp only [thenQ, blockQ, retQ]
  first | refine ⟨_, ⟨_, _, _, rfl, rfl, (by first | exact loadVar_mtx Try.isAgg141 Try.sizeOf141 | exact loadVar_agg Try.isAgg141 Try.sizeOf141), rfl⟩, ?_⟩ | (refine retD_mark ?_; intro w H; refine ⟨_, ⟨_, _, _, rfl, rfl, (by first | exact loadVar_mtx Try.isAgg141 Try.sizeOf141 | exact loadVar_agg Try.isAgg141 Try.sizeOf141), rfl⟩, ?_⟩) | (refine retD_mark2 ?_; intro w H; refine ⟨_, ⟨_, _, _, rfl, rfl, (by first | exact loadVar_mtx Try.isAgg141 Try.sizeOf141 | exact loadVar_agg Try.isAgg141 Try.sizeOf141), rfl⟩, ?_⟩)
  exact ⟨rfl, by first | assumption | exact Holds.to (by assumption)⟩
def RgOB (s : Nat) (vv : Value) (at_ : List BkM) (f n : Int) : HProp := star [pt s (.cells #[vv, .int .i64 f, .int .i64 n] 170 (0, 0)), bks vv at_]
theorem rgOB_open {w : World} {s : Nat} {vv : Value} {at_ : List BkM} {f n : Int} {L : List HProp} : Holds w (RgOB s vv at_ f n :: L) ↔ Holds w (pt s (.cells #[vv, .int .i64 f, .int .i64 n] 170 (0, 0)) :: bks vv at_ :: L) := by
  unfold RgOB
  simp only [Holds.star, List.cons_append, List.nil_append]
def RgB (s k : Nat) (xs : List BkM) : HProp := hex fun vv => hex fun at_ => hex fun f => star [hp (Rep at_ f xs k), RgOB s vv at_ f xs.length]
theorem rgB_open {w : World} {s k : Nat} {xs : List BkM} {L : List HProp} : Holds w (RgB s k xs :: L) ↔ ∃ vv at_ f, Rep at_ f xs k ∧ Holds w (RgOB s vv at_ f xs.length :: L) := by
  unfold RgB
  simp only [Holds.hex, Holds.star, List.cons_append, List.nil_append, Holds.hp]
theorem lenB_ct {w : World} {s k : Nat} {xs : List BkM} {L : List HProp} (H : Holds w (RgB s k xs :: L)) :
    CT Try.prog 117 [.pointer (some ⟨s, 0, none⟩)] w fun u w' => u = .int .i64 xs.length ∧ Holds w' (RgB s k xs :: L) := by
  obtain ⟨vv, at_, f, hr, H⟩ := rgB_open.1 H
  have H := rgOB_open.1 H
  refine CT.enter (N := 7) Try.func117 rfl rfl rfl rfl ?_
  refine W.seq (fun K0 hK0 => ?_)
  refine W.region ?_
  refine O.ex (Ex.assign rfl) rfl ?_
  refine O.nil ?_
  refine hK0 _ _ _ ?_
  refine W.seq (fun K1 hK1 => ?_)
  refine W.region ?_
  refine O.ex (Ex.move rfl) rfl ?_
  refine O.ex (by first | exact Ex.nilPtr rfl | exact Ex.nilFunc rfl | exact Ex.nilYield rfl) rfl ?_
  refine O.ex (by first | exact Ex.field0 fld170_2 rfl | exact Ex.field fld170_2 rfl | exact Ex.fieldS fld170_2 rfl) rfl ?_
  refine O.ex (by first | exact Ex.loadN Try.isAgg3 rfl | exact Ex.loadMh Try.isAgg3 rfl | exact Ex.loadP Try.isAgg3 rfl | exact Ex.loadM Try.isAgg3 rfl | exact Ex.loadIn1 Try.isAgg3 rfl (Holds.to (by assumption)) | exact Ex.loadVc Try.isAgg3 rfl | exact Ex.loadR Try.isAgg3 rfl | exact Ex.loadQ Try.isAgg3 rfl) rfl ?_
  refine O.ex (Ex.assign rfl) rfl ?_
  refine O.nil ?_
  refine hK1 _ _ _ ?_
  refine W.ret ?_
  try dsimp only [thenQ, blockQ, retQ]
  first | refine ⟨_, ⟨_, _, rfl, rfl, rfl⟩, ?_⟩ | (refine retD_mark ?_; intro w H; refine ⟨_, ⟨_, _, rfl, rfl, rfl⟩, ?_⟩) | (refine retD_mark2 ?_; intro w H; refine ⟨_, ⟨_, _, rfl, rfl, rfl⟩, ?_⟩)
  exact ⟨rfl, rgB_open.2 ⟨vv, at_, f, hr, rgOB_open.2 (Holds.to (by assumption))⟩⟩
theorem newB_ct {w : World} {n : Int} {L : List HProp} (H : Holds w L) :
    CT Try.prog 92 [.int .i64 n] w fun u w' => (¬ (1 ≤ n ∧ n ≤ 32) ∧ u = .tuple #[.pointer none, .int .i64 1] ∧ Holds w' L) ∨
      ((1 ≤ n ∧ n ≤ 32) ∧ ∃ s, u = .tuple #[.pointer (some ⟨s, 0, none⟩), .int .i64 0] ∧ Holds w' (RgB s n.toNat ([] : List BkM) :: L)) := by
  refine CT.enter (N := 14) Try.func92 rfl rfl rfl rfl ?_
  refine W.seq (fun K0 hK0 => ?_)
  refine W.region ?_
  refine O.ex (Ex.assign rfl) rfl ?_
  refine O.ex (Ex.assign rfl) rfl ?_
  refine O.nil ?_
  refine hK0 _ _ _ ?_
  refine W.seq (fun K1 hK1 => ?_)
  refine W.seq (fun K2 hK2 => ?_)
  refine W.region ?_
  refine O.ex (Ex.move rfl) rfl ?_
  refine O.ex (Ex.lss rfl rfl) rfl ?_
  refine O.ex (Ex.move rfl) rfl ?_
  first | refine O.split_p (t := 6) rfl (fun h6 => ?_) (fun h6 => ?_) | refine O.split (t := 6) rfl (fun h6 => ?_) (fun h6 => ?_)
  · refine O.guard_f rfl rfl rfl rfl ?_
    refine O.guard_f rfl rfl rfl rfl ?_
    refine O.ex (Ex.pick_t rfl rfl) rfl ?_
    refine O.nil ?_
    refine hK2 _ _ _ ?_
    refine W.cond_t rfl ?_
    refine W.seq (fun K3 hK3 => ?_)
    refine W.region ?_
    refine O.ex (Ex.assign rfl) rfl ?_
    refine O.ex (Ex.assign rfl) rfl ?_
    refine O.nil ?_
    refine hK3 _ _ _ ?_
    refine W.ret ?_
    try dsimp only [thenQ, blockQ, retQ]
    first | refine ⟨_, ⟨_, _, rfl, rfl, _, _, rfl, rfl, rfl⟩, ?_⟩ | (refine retD_mark ?_; intro w H; refine ⟨_, ⟨_, _, rfl, rfl, _, _, rfl, rfl, rfl⟩, ?_⟩) | (refine retD_mark2 ?_; intro w H; refine ⟨_, ⟨_, _, rfl, rfl, _, _, rfl, rfl, rfl⟩, ?_⟩)
    first
    | exact .inl ⟨by omega, rfl, by assumption⟩
    | exact .inr ⟨by omega, _, rfl, rgB_open.2 ⟨_, _, 0, Rep.new BkM.z (by omega) (by omega), rgOB_open.2 (Holds.to (by assumption))⟩⟩
  · refine O.guard_t rfl rfl ?_
    refine O.ex (Ex.move rfl) rfl ?_
    refine O.guard_t rfl rfl ?_
    refine O.ex (Ex.gtr rfl rfl) rfl ?_
    refine O.ex (Ex.pick_f rfl rfl) rfl ?_
    refine O.nil ?_
    refine hK2 _ _ _ ?_
    first | refine W.cond_p rfl (fun h9 => ?_) (fun h9 => ?_) | refine W.cond_b rfl (fun h9 => ?_) (fun h9 => ?_)
    · refine W.seq (fun K4 hK4 => ?_)
      refine W.region ?_
      refine O.ex (Ex.assign rfl) rfl ?_
      refine O.ex (Ex.assign rfl) rfl ?_
      refine O.nil ?_
      refine hK4 _ _ _ ?_
      refine W.ret ?_
      try dsimp only [thenQ, blockQ, retQ]
      first | refine ⟨_, ⟨_, _, rfl, rfl, _, _, rfl, rfl, rfl⟩, ?_⟩ | (refine retD_mark ?_; intro w H; refine ⟨_, ⟨_, _, rfl, rfl, _, _, rfl, rfl, rfl⟩, ?_⟩) | (refine retD_mark2 ?_; intro w H; refine ⟨_, ⟨_, _, rfl, rfl, _, _, rfl, rfl, rfl⟩, ?_⟩)
      first
      | exact .inl ⟨by omega, rfl, by assumption⟩
      | exact .inr ⟨by omega, _, rfl, rgB_open.2 ⟨_, _, 0, Rep.new BkM.z (by omega) (by omega), rgOB_open.2 (Holds.to (by assumption))⟩⟩
    · refine W.skip ?_
      refine hK1 _ _ _ ?_
      refine W.seq (fun K5 hK5 => ?_)
      refine W.region ?_
      refine O.ex (Ex.move rfl) rfl ?_
      refine O.makeN BkM.z (e := BkM.enc) (bt := 40) Try.runUnderlying168 Try.sizeOf141 Try.zeroValue141 Try.typeInfo141 rfl rfl rfl rfl (by decide) (fun s11 w hs11 H => ?_)
      refine O.ex (Ex.build rfl (bld170_0 _ (by first | rfl | assumption))) rfl ?_
      refine O.boxP rfl (fun b13 w H => ?_)
      refine O.ex (Ex.assign rfl) rfl ?_
      refine O.ex (Ex.assign rfl) rfl ?_
      refine O.nil ?_
      refine hK5 _ _ _ ?_
      refine W.ret ?_
      try dsimp only [thenQ, blockQ, retQ]
      first | refine ⟨_, ⟨_, _, rfl, rfl, _, _, rfl, rfl, rfl⟩, ?_⟩ | (refine retD_mark ?_; intro w H; refine ⟨_, ⟨_, _, rfl, rfl, _, _, rfl, rfl, rfl⟩, ?_⟩) | (refine retD_mark2 ?_; intro w H; refine ⟨_, ⟨_, _, rfl, rfl, _, _, rfl, rfl, rfl⟩, ?_⟩)
      first
      | exact .inl ⟨by omega, rfl, by assumption⟩
      | exact .inr ⟨by omega, _, rfl, rgB_open.2 ⟨_, _, 0, Rep.new BkM.z (by omega) (by omega), rgOB_open.2 (Holds.to (by assumption))⟩⟩
set_option maxHeartbeats 1000000 in
theorem pushB_ct {w : World} {s k : Nat} {xs : List BkM} {v : BkM} {L : List HProp} (H : Holds w (RgB s k xs :: L)) :
    CT Try.prog 100 [.pointer (some ⟨s, 0, none⟩), v.val] w fun _ w' => Holds w' (RgB s k ((if xs.length = k then xs.tail else xs) ++ [v]) :: L) := by
  obtain ⟨vv, at_, f, hr, H⟩ := rgB_open.1 H
  have H := rgOB_open.1 H
  have k0 := hr.k0
  have k1 := hr.k1
  have la := hr.la
  have f0 := hr.f0
  have f1 := hr.f1
  have lx := hr.lx
  refine CT.enter (N := 58) Try.func100 rfl rfl rfl rfl ?_
  refine W.seq (fun K0 hK0 => ?_)
  refine W.region ?_
  refine O.boxP rfl (fun b3 w H => ?_)
  have H : Holds w (pt b3 (.cells (bc v) 141 (0, 0)) :: pt s (.cells #[vv, .int .i64 f, .int .i64 xs.length] 170 (0, 0)) :: bks vv at_ :: L) := H
  refine O.allocP Try.zeroValue141 (fun b4 w H => ?_)
  have H : Holds w (pt b4 (.cells bzc 141 (0, 0)) :: pt b3 (.cells (bc v) 141 (0, 0)) :: pt s (.cells #[vv, .int .i64 f, .int .i64 xs.length] 170 (0, 0)) :: bks vv at_ :: L) := H
  refine O.ex (Ex.assign rfl) rfl ?_
  refine O.nil ?_
  refine hK0 _ _ _ ?_
  refine W.seq (fun K1 hK1 => ?_)
  refine W.region ?_
  refine O.allocP Try.zeroValue141 (fun b6 w H => ?_)
  have H : Holds w (pt b6 (.cells (bc BkM.z) 141 (0, 0)) :: pt b4 (.cells bzc 141 (0, 0)) :: pt b3 (.cells (bc v) 141 (0, 0)) :: pt s (.cells #[vv, .int .i64 f, .int .i64 xs.length] 170 (0, 0)) :: bks vv at_ :: L) := H
  obtain ⟨p6, hp6⟩ : ∃ p, p = BkM.z := ⟨_, rfl⟩
  rw [← hp6] at H
  clear hp6
  refine O.nil ?_
  refine hK1 _ _ _ ?_
  refine W.seq (fun K2 hK2 => ?_)
  refine W.drawTo _ (.take 0 (.take 1 (.take 2 (.take 3 (.take 4 (.take 5 (.take 6 (.take 7 (.take 8 (.take 9 (.take 10 .nil))))))))))) (mixed) (fun _ _ _ _ h => h) (by assumption) (PP.refl _) (by decide +kernel) (fun w H => ?_)
  refine OQ.ex rfl (fun w H => (Ex.move rfl)) rfl ?_
  refine OQ.ex rfl (fun w H => (by first | exact Ex.nilPtr rfl | exact Ex.nilFunc rfl | exact Ex.nilYield rfl)) rfl ?_
  refine OQ.ex rfl (fun w H => (by first | exact Ex.field0 fld170_2 rfl | exact Ex.field fld170_2 rfl | exact Ex.fieldS fld170_2 rfl)) rfl ?_
  refine OQ.ex rfl (fun w H => (by first | exact Ex.loadN Try.isAgg3 rfl | exact Ex.loadMh Try.isAgg3 rfl | exact Ex.loadP Try.isAgg3 rfl | exact Ex.loadM Try.isAgg3 rfl | exact Ex.loadIn1 Try.isAgg3 rfl (Holds.to (by assumption)) | exact Ex.loadVc Try.isAgg3 rfl | exact Ex.loadR Try.isAgg3 rfl | exact Ex.loadQ Try.isAgg3 rfl)) rfl ?_
  refine OQ.ex rfl (fun w H => (Ex.move rfl)) rfl ?_
  refine OQ.ex rfl (fun w H => (by first | exact Ex.nilPtr rfl | exact Ex.nilFunc rfl | exact Ex.nilYield rfl)) rfl ?_
  refine OQ.ex rfl (fun w H => (by first | exact Ex.field0 fld170_0 rfl | exact Ex.field fld170_0 rfl | exact Ex.fieldS fld170_0 rfl)) rfl ?_
  refine OQ.ex rfl (fun w H => (by first | exact Ex.loadN Try.isAgg168 rfl | exact Ex.loadMh Try.isAgg168 rfl | exact Ex.loadP Try.isAgg168 rfl | exact Ex.loadM Try.isAgg168 rfl | exact Ex.loadIn1 Try.isAgg168 rfl (Holds.to (by assumption)) | exact Ex.loadVc Try.isAgg168 rfl | exact Ex.loadR Try.isAgg168 rfl | exact Ex.loadQ Try.isAgg168 rfl)) rfl ?_
  refine OQ.ex rfl (fun w H => (by first | exact Ex.lenN Try.runUnderlying168 rfl | exact Ex.lenIn Try.runUnderlying168 rfl | exact Ex.lenL Try.runUnderlying168 rfl | exact Ex.len rfl Try.runUnderlying168 rfl)) rfl ?_
  refine OQ.ex rfl (fun w H => (Ex.eqlI rfl rfl)) rfl ?_
  refine OQ.ex rfl (fun w H => (Ex.assign rfl)) rfl ?_
  refine OQ.done ?_
  refine hK2 _ _ _ ?_
  refine W.seq (fun K3 hK3 => ?_)
  refine W.seq (fun K4 hK4 => ?_)
  refine W.region ?_
  refine O.ex (Ex.move rfl) rfl ?_
  refine O.nil ?_
  refine hK4 _ _ _ ?_
  first | refine W.cond_p rfl (fun hfull => ?_) (fun hnot => ?_) | refine W.cond_b rfl (fun hfull => ?_) (fun hnot => ?_)
  · refine W.seq (fun K5 hK5 => ?_)
    refine W.region ?_
    obtain ⟨x, xs, rfl⟩ : ∃ x ys, xs = x :: ys := by cases xs with | nil => simp only [List.length_nil] at hfull; omega | cons x ys => exact ⟨x, ys, rfl⟩
    refine O.ex (Ex.move rfl) rfl ?_
    refine O.ex (Ex.move rfl) rfl ?_
    refine O.ex (by first | exact Ex.nilPtr rfl | exact Ex.nilFunc rfl | exact Ex.nilYield rfl) rfl ?_
    refine O.ex (by first | exact Ex.field0 fld170_1 rfl | exact Ex.field fld170_1 rfl | exact Ex.fieldS fld170_1 rfl) rfl ?_
    refine O.ex (by first | exact Ex.loadN Try.isAgg3 rfl | exact Ex.loadMh Try.isAgg3 rfl | exact Ex.loadP Try.isAgg3 rfl | exact Ex.loadM Try.isAgg3 rfl | exact Ex.loadIn1 Try.isAgg3 rfl (Holds.to (by assumption)) | exact Ex.loadVc Try.isAgg3 rfl | exact Ex.loadR Try.isAgg3 rfl | exact Ex.loadQ Try.isAgg3 rfl) rfl ?_
    refine O.callF Try.call118 rfl rfl (CT.mono (outB_ct (Holds.to (by assumption)) (by omega) (by omega)) ?_)
    rintro _ w ⟨rfl, H⟩
    refine O.storeAggP Try.sizeOf141 rfl rfl rfl (BkM.all1 (at_.getD f.toNat default)) (fun w H => ?_) (Holds.to (M := pt b6 (.cells (bc p6) 141 (0, 0)) :: _) (by assumption))
    have H : Holds w (pt b6 (.cells (bc (at_.getD f.toNat default)) 141 (0, 0)) :: pt b4 (.cells bzc 141 (0, 0)) :: pt b3 (.cells (bc v) 141 (0, 0)) :: pt s (.cells #[vv, .int .i64 f, .int .i64 ((x :: xs).length : Nat)] 170 (0, 0)) :: bks vv (at_.set f.toNat BkM.z) :: L) := Holds.to H
    obtain ⟨p6, hp6⟩ : ∃ p, p = at_.getD f.toNat default := ⟨_, rfl⟩
    rw [← hp6] at H
    refine O.nil ?_
    refine hK5 _ _ _ ?_
    refine W.seq (fun K6 hK6 => ?_)
    refine W.region ?_
    refine O.ex (Ex.move rfl) rfl ?_
    refine O.ex (Ex.move rfl) rfl ?_
    refine O.callF Try.call119 rfl rfl (CT.mono (placeB_ct (k := k) (Holds.to (by assumption)) (by simp only [List.length_set]; omega) (by simp only [List.length_set]; omega) (by omega) (by omega) (by omega) (by omega) (by simp only [List.length_set]; exact la)) ?_)
    rintro _ w ⟨rfl, H⟩
    refine O.ex (by first | exact Ex.nilPtr rfl | exact Ex.nilFunc rfl | exact Ex.nilYield rfl) rfl ?_
    refine O.ex (by first | exact Ex.field0 fld170_1 rfl | exact Ex.field fld170_1 rfl | exact Ex.fieldS fld170_1 rfl) rfl ?_
    first | refine O.storeP Try.sizeOf3 rfl rfl (fun w H => ?_) | refine O.storeR Try.sizeOf3 rfl rfl (fun w H => ?_) | refine O.storeM Try.sizeOf3 rfl rfl (fun w H => ?_) | refine O.storeVc Try.sizeOf3 rfl rfl (fun w H => ?_)
    refine O.nil ?_
    refine hK6 _ _ _ ?_
    refine W.region ?_
    refine O.ex (Ex.move rfl) rfl ?_
    refine O.ex (by first | exact Ex.nilPtr rfl | exact Ex.nilFunc rfl | exact Ex.nilYield rfl) rfl ?_
    refine O.ex (by first | exact Ex.field0 fld170_2 rfl | exact Ex.field fld170_2 rfl | exact Ex.fieldS fld170_2 rfl) rfl ?_
    refine O.ex (by first | exact Ex.loadN Try.isAgg3 rfl | exact Ex.loadMh Try.isAgg3 rfl | exact Ex.loadP Try.isAgg3 rfl | exact Ex.loadM Try.isAgg3 rfl | exact Ex.loadIn1 Try.isAgg3 rfl (Holds.to (by assumption)) | exact Ex.loadVc Try.isAgg3 rfl | exact Ex.loadR Try.isAgg3 rfl | exact Ex.loadQ Try.isAgg3 rfl) rfl ?_
    refine O.ex (by first | exact Ex.subI rfl rfl | exact Ex.sub rfl rfl rfl) rfl ?_
    refine O.ex (by first | exact Ex.nilPtr rfl | exact Ex.nilFunc rfl | exact Ex.nilYield rfl) rfl ?_
    refine O.ex (by first | exact Ex.field0 fld170_2 rfl | exact Ex.field fld170_2 rfl | exact Ex.fieldS fld170_2 rfl) rfl ?_
    first | refine O.storeP Try.sizeOf3 rfl rfl (fun w H => ?_) | refine O.storeR Try.sizeOf3 rfl rfl (fun w H => ?_) | refine O.storeM Try.sizeOf3 rfl rfl (fun w H => ?_) | refine O.storeVc Try.sizeOf3 rfl rfl (fun w H => ?_)
    obtain ⟨e1, hr⟩ := hr.tail BkM.z
    have hlt0 : xs.length < k := by simp only [List.length_cons] at lx; omega
    have en : (((x :: xs).length : Nat) : Int) - 1 = xs.length := by simp only [List.length_cons]; omega
    refine O.nil ?_
    refine hK3 _ _ _ ?_
    refine W.seq (fun K7 hK7 => ?_)
    first | have hlt := hlt0 | have hlt : xs.length < k := by omega
    have hix := hr.ixn hlt
    have la := hr.la
    have k0 := hr.k0
    have f0 := hr.f0
    have f1 := hr.f1
    try simp only [en] at H
    have s1 := arrN_sl (T := 141) (sz := 5) (e := BkM.enc) (v := vv) (Holds.to (by assumption)) (by omega)
    refine W.drawTo (pt s _ :: pt b3 (.cells (bc v) 141 (0, 0)) :: []) (.take 0 (.take 1 (.take 2 (.take 3 (.take 4 (.take 5 (.take 6 (.take 7 (.take 8 (.take 10 (.one 9 (.take 11 (.one 12 .nil))))))))))))) (mixed) (fun _ _ _ _ h => h) (by assumption) PP.auto (by decide +kernel) (fun w H => ?_)
    refine OQ.ex rfl (fun w H => (Ex.move rfl)) rfl ?_
    refine OQ.ex rfl (fun w H => (by first | exact Ex.nilPtr rfl | exact Ex.nilFunc rfl | exact Ex.nilYield rfl)) rfl ?_
    refine OQ.ex rfl (fun w H => (by first | exact Ex.field0 fld170_0 rfl | exact Ex.field fld170_0 rfl | exact Ex.fieldS fld170_0 rfl)) rfl ?_
    refine OQ.ex rfl (fun w H => (by first | exact Ex.loadN Try.isAgg168 rfl | exact Ex.loadMh Try.isAgg168 rfl | exact Ex.loadP Try.isAgg168 rfl | exact Ex.loadM Try.isAgg168 rfl | exact Ex.loadIn1 Try.isAgg168 rfl (Holds.to (by assumption)) | exact Ex.loadVc Try.isAgg168 rfl | exact Ex.loadR Try.isAgg168 rfl | exact Ex.loadQ Try.isAgg168 rfl)) rfl ?_
    refine OQ.ex rfl (fun w H => (Ex.move rfl)) rfl ?_
    refine OQ.ex rfl (fun w H => (Ex.move rfl)) rfl ?_
    refine OQ.ex rfl (fun w H => (by first | exact Ex.nilPtr rfl | exact Ex.nilFunc rfl | exact Ex.nilYield rfl)) rfl ?_
    refine OQ.ex rfl (fun w H => (by first | exact Ex.field0 fld170_2 rfl | exact Ex.field fld170_2 rfl | exact Ex.fieldS fld170_2 rfl)) rfl ?_
    refine OQ.ex rfl (fun w H => (by first | exact Ex.loadN Try.isAgg3 rfl | exact Ex.loadMh Try.isAgg3 rfl | exact Ex.loadP Try.isAgg3 rfl | exact Ex.loadM Try.isAgg3 rfl | exact Ex.loadIn1 Try.isAgg3 rfl (Holds.to (by assumption)) | exact Ex.loadVc Try.isAgg3 rfl | exact Ex.loadR Try.isAgg3 rfl | exact Ex.loadQ Try.isAgg3 rfl)) rfl ?_
    refine OQ.ex rfl (fun w H => (by first | exact Ex.loadAggP Try.isAgg141 Try.sizeOf141 rfl | exact Ex.loadAggN Try.isAgg141 Try.sizeOf141 rfl | exact Ex.loadIn Try.isAgg141 Try.sizeOf141 rfl (Holds.to (by assumption)))) rfl ?_
    refine OQ.step rfl ?_
    refine O.callF Try.call119 rfl rfl (CT.mono (placeB_ct (k := k) (Holds.to (by assumption)) (by omega) (by omega) (by omega) (by omega) (by omega) (by omega) la) ?_)
    rintro _ w ⟨rfl, H⟩
    refine O.thenNil ⟨(by first | exact Holds.to (by assumption) | assumption), ?_⟩
    refine OQ.ex rfl (fun w H => (by first | exact Ex.idxN Try.runUnderlying168 Try.sizeOf141 rfl rfl | exact Ex.idxSN Try.runUnderlying168 Try.sizeOf141 rfl rfl | exact Ex.idxIn Try.runUnderlying168 Try.sizeOf141 rfl rfl | exact Ex.idx Try.runUnderlying168 Try.sizeOf141 rfl rfl (by omega) (by omega))) rfl ?_
    refine OQ.last rfl (by decide +kernel) ?_
    refine O.storeAggN (z := v) Try.sizeOf141 rfl rfl rfl (fun w H => ?_) (BkM.all1 v) (Holds.to (M := bks vv _ :: _) (by assumption)) (by intro _; rfl) (by omega)
    refine O.nil ?_
    refine hK7 _ _ _ ?_
    refine W.seq (fun K8 hK8 => ?_)
    refine W.region ?_
    refine O.ex (Ex.move rfl) rfl ?_
    refine O.ex (by first | exact Ex.nilPtr rfl | exact Ex.nilFunc rfl | exact Ex.nilYield rfl) rfl ?_
    refine O.ex (by first | exact Ex.field0 fld170_2 rfl | exact Ex.field fld170_2 rfl | exact Ex.fieldS fld170_2 rfl) rfl ?_
    refine O.ex (by first | exact Ex.loadN Try.isAgg3 rfl | exact Ex.loadMh Try.isAgg3 rfl | exact Ex.loadP Try.isAgg3 rfl | exact Ex.loadM Try.isAgg3 rfl | exact Ex.loadIn1 Try.isAgg3 rfl (Holds.to (by assumption)) | exact Ex.loadVc Try.isAgg3 rfl | exact Ex.loadR Try.isAgg3 rfl | exact Ex.loadQ Try.isAgg3 rfl) rfl ?_
    refine O.ex (by first | exact Ex.addI rfl rfl | exact Ex.add rfl rfl rfl) rfl ?_
    refine O.ex (by first | exact Ex.nilPtr rfl | exact Ex.nilFunc rfl | exact Ex.nilYield rfl) rfl ?_
    refine O.ex (by first | exact Ex.field0 fld170_2 rfl | exact Ex.field fld170_2 rfl | exact Ex.fieldS fld170_2 rfl) rfl ?_
    first | refine O.storeP Try.sizeOf3 rfl rfl (fun w H => ?_) | refine O.storeR Try.sizeOf3 rfl rfl (fun w H => ?_) | refine O.storeM Try.sizeOf3 rfl rfl (fun w H => ?_) | refine O.storeVc Try.sizeOf3 rfl rfl (fun w H => ?_)
    refine O.nil ?_
    refine hK8 _ _ _ ?_
    refine W.seq (fun K9 hK9 => ?_)
    refine W.region ?_
    refine O.ex (by first | exact Ex.loadAggP Try.isAgg141 Try.sizeOf141 rfl | exact Ex.loadAggN Try.isAgg141 Try.sizeOf141 rfl | exact Ex.loadIn Try.isAgg141 Try.sizeOf141 rfl (Holds.to (by assumption))) rfl ?_
    refine O.ex (Ex.move rfl) rfl ?_
    refine O.storeAggP Try.sizeOf141 rfl rfl rfl (BkM.all1 p6) (fun w H => ?_) (Holds.to (M := pt b4 (.cells bzc 141 (0, 0)) :: _) (by assumption))
    have H := (show Holds w (pt b4 (.cells (bc p6) 141 (0, 0)) :: _) from H)
    refine O.ex (Ex.assign rfl) rfl ?_
    refine O.nil ?_
    refine hK9 _ _ _ ?_
    refine W.ret ?_
    try dsimp only [thenQ, blockQ, retQ]
    first | refine ⟨_, ⟨_, _, _, rfl, rfl, (by first | exact loadVar_mtx Try.isAgg141 Try.sizeOf141 | exact loadVar_agg Try.isAgg141 Try.sizeOf141), _, _, rfl, rfl, rfl⟩, ?_⟩ | (refine retD_mark ?_; intro w H; refine ⟨_, ⟨_, _, _, rfl, rfl, (by first | exact loadVar_mtx Try.isAgg141 Try.sizeOf141 | exact loadVar_agg Try.isAgg141 Try.sizeOf141), _, _, rfl, rfl, rfl⟩, ?_⟩) | (refine retD_mark2 ?_; intro w H; refine ⟨_, ⟨_, _, _, rfl, rfl, (by first | exact loadVar_mtx Try.isAgg141 Try.sizeOf141 | exact loadVar_agg Try.isAgg141 Try.sizeOf141), _, _, rfl, rfl, rfl⟩, ?_⟩)
    have en2 : (((xs ++ [v]).length : Nat) : Int) = xs.length + 1 := by simp
    have hr2 := hr.push v hlt
    first
    | (have hk : (x :: xs).length = k := by omega
       rw [if_pos hk]
       show Holds w (RgB s k (xs ++ [v]) :: L)
       exact rgB_open.2 ⟨vv, _, _, hr2, rgOB_open.2 (by rw [en2]; exact Holds.to (by assumption))⟩)
    | (have hk : ¬ xs.length = k := by omega
       rw [if_neg hk]
       exact rgB_open.2 ⟨vv, _, _, hr2, rgOB_open.2 (by rw [en2]; exact Holds.to (by assumption))⟩)
  · refine W.skip ?_
    refine hK3 _ _ _ ?_
    refine W.seq (fun K10 hK10 => ?_)
    first | have hlt := hlt0 | have hlt : xs.length < k := by omega
    have hix := hr.ixn hlt
    have la := hr.la
    have k0 := hr.k0
    have f0 := hr.f0
    have f1 := hr.f1
    try simp only [en] at H
    have s1 := arrN_sl (T := 141) (sz := 5) (e := BkM.enc) (v := vv) (Holds.to (by assumption)) (by omega)
    refine W.drawTo (pt s _ :: pt b3 (.cells (bc v) 141 (0, 0)) :: []) (.take 0 (.take 1 (.take 2 (.take 3 (.take 4 (.take 5 (.take 6 (.take 7 (.take 8 (.take 10 (.one 9 (.take 11 (.one 12 .nil))))))))))))) (mixed) (fun _ _ _ _ h => h) (by assumption) PP.auto (by decide +kernel) (fun w H => ?_)
    refine OQ.ex rfl (fun w H => (Ex.move rfl)) rfl ?_
    refine OQ.ex rfl (fun w H => (by first | exact Ex.nilPtr rfl | exact Ex.nilFunc rfl | exact Ex.nilYield rfl)) rfl ?_
    refine OQ.ex rfl (fun w H => (by first | exact Ex.field0 fld170_0 rfl | exact Ex.field fld170_0 rfl | exact Ex.fieldS fld170_0 rfl)) rfl ?_
    refine OQ.ex rfl (fun w H => (by first | exact Ex.loadN Try.isAgg168 rfl | exact Ex.loadMh Try.isAgg168 rfl | exact Ex.loadP Try.isAgg168 rfl | exact Ex.loadM Try.isAgg168 rfl | exact Ex.loadIn1 Try.isAgg168 rfl (Holds.to (by assumption)) | exact Ex.loadVc Try.isAgg168 rfl | exact Ex.loadR Try.isAgg168 rfl | exact Ex.loadQ Try.isAgg168 rfl)) rfl ?_
    refine OQ.ex rfl (fun w H => (Ex.move rfl)) rfl ?_
    refine OQ.ex rfl (fun w H => (Ex.move rfl)) rfl ?_
    refine OQ.ex rfl (fun w H => (by first | exact Ex.nilPtr rfl | exact Ex.nilFunc rfl | exact Ex.nilYield rfl)) rfl ?_
    refine OQ.ex rfl (fun w H => (by first | exact Ex.field0 fld170_2 rfl | exact Ex.field fld170_2 rfl | exact Ex.fieldS fld170_2 rfl)) rfl ?_
    refine OQ.ex rfl (fun w H => (by first | exact Ex.loadN Try.isAgg3 rfl | exact Ex.loadMh Try.isAgg3 rfl | exact Ex.loadP Try.isAgg3 rfl | exact Ex.loadM Try.isAgg3 rfl | exact Ex.loadIn1 Try.isAgg3 rfl (Holds.to (by assumption)) | exact Ex.loadVc Try.isAgg3 rfl | exact Ex.loadR Try.isAgg3 rfl | exact Ex.loadQ Try.isAgg3 rfl)) rfl ?_
    refine OQ.ex rfl (fun w H => (by first | exact Ex.loadAggP Try.isAgg141 Try.sizeOf141 rfl | exact Ex.loadAggN Try.isAgg141 Try.sizeOf141 rfl | exact Ex.loadIn Try.isAgg141 Try.sizeOf141 rfl (Holds.to (by assumption)))) rfl ?_
    refine OQ.step rfl ?_
    refine O.callF Try.call119 rfl rfl (CT.mono (placeB_ct (k := k) (Holds.to (by assumption)) (by omega) (by omega) (by omega) (by omega) (by omega) (by omega) la) ?_)
    rintro _ w ⟨rfl, H⟩
    refine O.thenNil ⟨(by first | exact Holds.to (by assumption) | assumption), ?_⟩
    refine OQ.ex rfl (fun w H => (by first | exact Ex.idxN Try.runUnderlying168 Try.sizeOf141 rfl rfl | exact Ex.idxSN Try.runUnderlying168 Try.sizeOf141 rfl rfl | exact Ex.idxIn Try.runUnderlying168 Try.sizeOf141 rfl rfl | exact Ex.idx Try.runUnderlying168 Try.sizeOf141 rfl rfl (by omega) (by omega))) rfl ?_
    refine OQ.last rfl (by decide +kernel) ?_
    refine O.storeAggN (z := v) Try.sizeOf141 rfl rfl rfl (fun w H => ?_) (BkM.all1 v) (Holds.to (M := bks vv _ :: _) (by assumption)) (by intro _; rfl) (by omega)
    refine O.nil ?_
    refine hK10 _ _ _ ?_
    refine W.seq (fun K11 hK11 => ?_)
    refine W.region ?_
    refine O.ex (Ex.move rfl) rfl ?_
    refine O.ex (by first | exact Ex.nilPtr rfl | exact Ex.nilFunc rfl | exact Ex.nilYield rfl) rfl ?_
    refine O.ex (by first | exact Ex.field0 fld170_2 rfl | exact Ex.field fld170_2 rfl | exact Ex.fieldS fld170_2 rfl) rfl ?_
    refine O.ex (by first | exact Ex.loadN Try.isAgg3 rfl | exact Ex.loadMh Try.isAgg3 rfl | exact Ex.loadP Try.isAgg3 rfl | exact Ex.loadM Try.isAgg3 rfl | exact Ex.loadIn1 Try.isAgg3 rfl (Holds.to (by assumption)) | exact Ex.loadVc Try.isAgg3 rfl | exact Ex.loadR Try.isAgg3 rfl | exact Ex.loadQ Try.isAgg3 rfl) rfl ?_
    refine O.ex (by first | exact Ex.addI rfl rfl | exact Ex.add rfl rfl rfl) rfl ?_
    refine O.ex (by first | exact Ex.nilPtr rfl | exact Ex.nilFunc rfl | exact Ex.nilYield rfl) rfl ?_
    refine O.ex (by first | exact Ex.field0 fld170_2 rfl | exact Ex.field fld170_2 rfl | exact Ex.fieldS fld170_2 rfl) rfl ?_
    first | refine O.storeP Try.sizeOf3 rfl rfl (fun w H => ?_) | refine O.storeR Try.sizeOf3 rfl rfl (fun w H => ?_) | refine O.storeM Try.sizeOf3 rfl rfl (fun w H => ?_) | refine O.storeVc Try.sizeOf3 rfl rfl (fun w H => ?_)
    refine O.nil ?_
    refine hK11 _ _ _ ?_
    refine W.seq (fun K12 hK12 => ?_)
    refine W.region ?_
    refine O.ex (by first | exact Ex.loadAggP Try.isAgg141 Try.sizeOf141 rfl | exact Ex.loadAggN Try.isAgg141 Try.sizeOf141 rfl | exact Ex.loadIn Try.isAgg141 Try.sizeOf141 rfl (Holds.to (by assumption))) rfl ?_
    refine O.ex (Ex.move rfl) rfl ?_
    refine O.storeAggP Try.sizeOf141 rfl rfl rfl (BkM.all1 p6) (fun w H => ?_) (Holds.to (M := pt b4 (.cells bzc 141 (0, 0)) :: _) (by assumption))
    have H := (show Holds w (pt b4 (.cells (bc p6) 141 (0, 0)) :: _) from H)
    refine O.ex (Ex.assign rfl) rfl ?_
    refine O.nil ?_
    refine hK12 _ _ _ ?_
    refine W.ret ?_
    try dsimp only [thenQ, blockQ, retQ]
    first | refine ⟨_, ⟨_, _, _, rfl, rfl, (by first | exact loadVar_mtx Try.isAgg141 Try.sizeOf141 | exact loadVar_agg Try.isAgg141 Try.sizeOf141), _, _, rfl, rfl, rfl⟩, ?_⟩ | (refine retD_mark ?_; intro w H; refine ⟨_, ⟨_, _, _, rfl, rfl, (by first | exact loadVar_mtx Try.isAgg141 Try.sizeOf141 | exact loadVar_agg Try.isAgg141 Try.sizeOf141), _, _, rfl, rfl, rfl⟩, ?_⟩) | (refine retD_mark2 ?_; intro w H; refine ⟨_, ⟨_, _, _, rfl, rfl, (by first | exact loadVar_mtx Try.isAgg141 Try.sizeOf141 | exact loadVar_agg Try.isAgg141 Try.sizeOf141), _, _, rfl, rfl, rfl⟩, ?_⟩)
    have en2 : (((xs ++ [v]).length : Nat) : Int) = xs.length + 1 := by simp
    have hr2 := hr.push v hlt
    first
    | (have hk : (x :: xs).length = k := by omega
       rw [if_pos hk]
       show Holds w (RgB s k (xs ++ [v]) :: L)
       exact rgB_open.2 ⟨vv, _, _, hr2, rgOB_open.2 (by rw [en2]; exact Holds.to (by assumption))⟩)
    | (have hk : ¬ xs.length = k := by omega
       rw [if_neg hk]
       exact rgB_open.2 ⟨vv, _, _, hr2, rgOB_open.2 (by rw [en2]; exact Holds.to (by assumption))⟩)
set_option maxHeartbeats 1000000 in
theorem popB_ct {w : World} {s k : Nat} {xs : List BkM} {L : List HProp} (H : Holds w (RgB s k xs :: L)) :
    CT Try.prog 93 [.pointer (some ⟨s, 0, none⟩)] w fun u w' => u = .tuple #[(xs.getLastD BkM.z).val, .bool (decide (xs.length ≠ 0))] ∧ Holds w' (RgB s k xs.dropLast :: L) := by
  obtain ⟨vv, at_, f, hr, H⟩ := rgB_open.1 H
  have H := rgOB_open.1 H
  have k0 := hr.k0
  have k1 := hr.k1
  have la := hr.la
  have f0 := hr.f0
  have f1 := hr.f1
  have lx := hr.lx
  refine CT.enter (N := 26) Try.func93 rfl rfl rfl rfl ?_
  refine W.seq (fun K0 hK0 => ?_)
  refine W.region ?_
  refine O.allocP Try.zeroValue141 (fun b2 w H => ?_)
  have H : Holds w (pt b2 (.cells bzc 141 (0, 0)) :: pt s (.cells #[vv, .int .i64 f, .int .i64 xs.length] 170 (0, 0)) :: bks vv at_ :: L) := H
  refine O.ex (Ex.assign rfl) rfl ?_
  refine O.nil ?_
  refine hK0 _ _ _ ?_
  refine W.seq (fun K1 hK1 => ?_)
  refine W.seq (fun K2 hK2 => ?_)
  refine W.region ?_
  refine O.ex (Ex.move rfl) rfl ?_
  refine O.ex (by first | exact Ex.nilPtr rfl | exact Ex.nilFunc rfl | exact Ex.nilYield rfl) rfl ?_
  refine O.ex (by first | exact Ex.field0 fld170_2 rfl | exact Ex.field fld170_2 rfl | exact Ex.fieldS fld170_2 rfl) rfl ?_
  refine O.ex (by first | exact Ex.loadN Try.isAgg3 rfl | exact Ex.loadMh Try.isAgg3 rfl | exact Ex.loadP Try.isAgg3 rfl | exact Ex.loadM Try.isAgg3 rfl | exact Ex.loadIn1 Try.isAgg3 rfl (Holds.to (by assumption)) | exact Ex.loadVc Try.isAgg3 rfl | exact Ex.loadR Try.isAgg3 rfl | exact Ex.loadQ Try.isAgg3 rfl) rfl ?_
  refine O.ex (Ex.eqlI rfl rfl) rfl ?_
  refine O.nil ?_
  refine hK2 _ _ _ ?_
  first | refine W.cond_p rfl (fun hz => ?_) (fun hnz => ?_) | refine W.cond_b rfl (fun hz => ?_) (fun hnz => ?_)
  · refine W.seq (fun K3 hK3 => ?_)
    refine W.region ?_
    refine O.allocP Try.zeroValue141 (fun b4 w H => ?_)
    refine O.nil ?_
    refine hK3 _ _ _ ?_
    refine W.seq (fun K4 hK4 => ?_)
    refine W.region ?_
    refine O.ex (by first | exact Ex.loadAggP Try.isAgg141 Try.sizeOf141 rfl | exact Ex.loadAggN Try.isAgg141 Try.sizeOf141 rfl | exact Ex.loadIn Try.isAgg141 Try.sizeOf141 rfl (Holds.to (by assumption))) rfl ?_
    first | refine O.storeAggP Try.sizeOf141 rfl rfl rfl rfl (fun w H => ?_) | refine O.storeAggN Try.sizeOf141 rfl rfl rfl (fun w H => ?_) rfl
    refine O.ex (Ex.assign rfl) rfl ?_
    refine O.nil ?_
    refine hK4 _ _ _ ?_
    refine W.ret ?_
    try dsimp only [thenQ, blockQ, retQ]
    first | refine ⟨_, ⟨_, _, _, rfl, rfl, (by first | exact loadVar_mtx Try.isAgg141 Try.sizeOf141 | exact loadVar_agg Try.isAgg141 Try.sizeOf141), _, _, rfl, rfl, rfl⟩, ?_⟩ | (refine retD_mark ?_; intro w H; refine ⟨_, ⟨_, _, _, rfl, rfl, (by first | exact loadVar_mtx Try.isAgg141 Try.sizeOf141 | exact loadVar_agg Try.isAgg141 Try.sizeOf141), _, _, rfl, rfl, rfl⟩, ?_⟩) | (refine retD_mark2 ?_; intro w H; refine ⟨_, ⟨_, _, _, rfl, rfl, (by first | exact loadVar_mtx Try.isAgg141 Try.sizeOf141 | exact loadVar_agg Try.isAgg141 Try.sizeOf141), _, _, rfl, rfl, rfl⟩, ?_⟩)
    first
    | (obtain rfl : xs = [] := List.length_eq_zero_iff.1 (by omega)
       exact ⟨rfl, rgB_open.2 ⟨vv, _, _, hr, rgOB_open.2 (Holds.to (by assumption))⟩⟩)
    | (obtain ⟨e1, hr2⟩ := hr.last BkM.z
       refine ⟨?_, ?_⟩
       · show Value.tuple #[(at_.getD ((f + (xs.length : Int)) % (k : Int)).toNat default).val, .bool true] = _
         rw [e1, decide_eq_true (show (xs ++ [x]).length ≠ 0 by simp), List.getLastD_concat]
       · rw [List.dropLast_concat]
         exact rgB_open.2 ⟨vv, _, _, hr2, rgOB_open.2 (Holds.to (by assumption))⟩)
  · refine W.skip ?_
    refine hK1 _ _ _ ?_
    refine W.seq (fun K5 hK5 => ?_)
    refine W.region ?_
    obtain ⟨xs, x, rfl⟩ : ∃ ys x, xs = ys ++ [x] := ⟨xs.dropLast, xs.getLast (by rintro rfl; simp at hnz), (List.dropLast_concat_getLast _).symm⟩
    have en : (((xs ++ [x]).length : Nat) : Int) - 1 = xs.length := by simp
    have lx2 : xs.length < k := by simp at lx; omega
    have hix := Rep.ix hr xs.length (by omega) (by omega)
    refine O.ex (Ex.move rfl) rfl ?_
    refine O.ex (by first | exact Ex.nilPtr rfl | exact Ex.nilFunc rfl | exact Ex.nilYield rfl) rfl ?_
    refine O.ex (by first | exact Ex.field0 fld170_2 rfl | exact Ex.field fld170_2 rfl | exact Ex.fieldS fld170_2 rfl) rfl ?_
    refine O.ex (by first | exact Ex.loadN Try.isAgg3 rfl | exact Ex.loadMh Try.isAgg3 rfl | exact Ex.loadP Try.isAgg3 rfl | exact Ex.loadM Try.isAgg3 rfl | exact Ex.loadIn1 Try.isAgg3 rfl (Holds.to (by assumption)) | exact Ex.loadVc Try.isAgg3 rfl | exact Ex.loadR Try.isAgg3 rfl | exact Ex.loadQ Try.isAgg3 rfl) rfl ?_
    refine O.ex (by first | exact Ex.subI rfl rfl | exact Ex.sub rfl rfl rfl) rfl ?_
    refine O.ex (by first | exact Ex.nilPtr rfl | exact Ex.nilFunc rfl | exact Ex.nilYield rfl) rfl ?_
    refine O.ex (by first | exact Ex.field0 fld170_2 rfl | exact Ex.field fld170_2 rfl | exact Ex.fieldS fld170_2 rfl) rfl ?_
    first | refine O.storeP Try.sizeOf3 rfl rfl (fun w H => ?_) | refine O.storeR Try.sizeOf3 rfl rfl (fun w H => ?_) | refine O.storeM Try.sizeOf3 rfl rfl (fun w H => ?_) | refine O.storeVc Try.sizeOf3 rfl rfl (fun w H => ?_)
    refine O.nil ?_
    refine hK5 _ _ _ ?_
    refine W.seq (fun K6 hK6 => ?_)
    refine W.region ?_
    simp only [en] at H
    refine O.ex (Ex.move rfl) rfl ?_
    refine O.ex (Ex.move rfl) rfl ?_
    refine O.ex (Ex.move rfl) rfl ?_
    refine O.ex (by first | exact Ex.nilPtr rfl | exact Ex.nilFunc rfl | exact Ex.nilYield rfl) rfl ?_
    refine O.ex (by first | exact Ex.field0 fld170_2 rfl | exact Ex.field fld170_2 rfl | exact Ex.fieldS fld170_2 rfl) rfl ?_
    refine O.ex (by first | exact Ex.loadN Try.isAgg3 rfl | exact Ex.loadMh Try.isAgg3 rfl | exact Ex.loadP Try.isAgg3 rfl | exact Ex.loadM Try.isAgg3 rfl | exact Ex.loadIn1 Try.isAgg3 rfl (Holds.to (by assumption)) | exact Ex.loadVc Try.isAgg3 rfl | exact Ex.loadR Try.isAgg3 rfl | exact Ex.loadQ Try.isAgg3 rfl) rfl ?_
    refine O.callF Try.call119 rfl rfl (CT.mono (placeB_ct (k := k) (Holds.to (by assumption)) (by omega) (by omega) (by omega) (by omega) (by omega) (by omega) la) ?_)
    rintro _ w ⟨rfl, H⟩
    refine O.callF Try.call118 rfl rfl (CT.mono (outB_ct (Holds.to (by assumption)) (by omega) (by omega)) ?_)
    rintro _ w ⟨rfl, H⟩
    refine O.storeAggP Try.sizeOf141 rfl rfl rfl (BkM.all1 _) (fun w H => ?_) (Holds.to (M := pt b2 (.cells bzc 141 (0, 0)) :: _) (by assumption))
    have H := (show Holds w (pt b2 (.cells (bc (at_.getD ((f + (xs.length : Int)) % (k : Int)).toNat default)) 141 (0, 0)) :: _) from H)
    refine O.ex (Ex.assign rfl) rfl ?_
    refine O.nil ?_
    refine hK6 _ _ _ ?_
    refine W.ret ?_
    try dsimp only [thenQ, blockQ, retQ]
    first | refine ⟨_, ⟨_, _, _, rfl, rfl, (by first | exact loadVar_mtx Try.isAgg141 Try.sizeOf141 | exact loadVar_agg Try.isAgg141 Try.sizeOf141), _, _, rfl, rfl, rfl⟩, ?_⟩ | (refine retD_mark ?_; intro w H; refine ⟨_, ⟨_, _, _, rfl, rfl, (by first | exact loadVar_mtx Try.isAgg141 Try.sizeOf141 | exact loadVar_agg Try.isAgg141 Try.sizeOf141), _, _, rfl, rfl, rfl⟩, ?_⟩) | (refine retD_mark2 ?_; intro w H; refine ⟨_, ⟨_, _, _, rfl, rfl, (by first | exact loadVar_mtx Try.isAgg141 Try.sizeOf141 | exact loadVar_agg Try.isAgg141 Try.sizeOf141), _, _, rfl, rfl, rfl⟩, ?_⟩)
    first
    | (obtain rfl : xs = [] := List.length_eq_zero_iff.1 (by omega)
       exact ⟨rfl, rgB_open.2 ⟨vv, _, _, hr, rgOB_open.2 (Holds.to (by assumption))⟩⟩)
    | (obtain ⟨e1, hr2⟩ := hr.last BkM.z
       refine ⟨?_, ?_⟩
       · show Value.tuple #[(at_.getD ((f + (xs.length : Int)) % (k : Int)).toNat default).val, .bool true] = _
         rw [e1, decide_eq_true (show (xs ++ [x]).length ≠ 0 by simp), List.getLastD_concat]
       · rw [List.dropLast_concat]
         exact rgB_open.2 ⟨vv, _, _, hr2, rgOB_open.2 (Holds.to (by assumption))⟩)
end Go.Proofs.Ytakmbbgnnbpkoaa
