import Derived.Test.YtikdblejkmaloaaStamp
namespace Go.Proofs.Ytikdblejkmaloaa
open Go.Rr
set_option linter.unusedVariables false
structure RefM where
  V : List Int
  Is : List Bool
def RefM.new (n : Nat) : RefM := { V := List.replicate n 0, Is := List.replicate n false }
def RefM.set (M : RefM) (i : Int) (x : Int) : RefM := { V := M.V.set i.toNat x, Is := M.Is.set i.toNat true }
def RefM.clear (M : RefM) : RefM := { V := M.V, Is := List.replicate M.V.length false }
def RefR (r : Nat) (M : RefM) : HProp := hex fun vv => hex fun wv => star [pt r (.cells #[vv, wv] 84 (0, 0)), arr 3 (Value.int .i64) vv M.V, arr 4 Value.bool wv M.Is]
theorem refR_open {w : World} {r : Nat} {M : RefM} {L : List HProp} : Holds w (RefR r M :: L) ↔ ∃ vv wv, Holds w (pt r (.cells #[vv, wv] 84 (0, 0)) :: arr 3 (Value.int .i64) vv M.V :: arr 4 Value.bool wv M.Is :: L) := by
  unfold RefR
  simp only [Holds.hex, Holds.star, List.cons_append, List.nil_append]

theorem refNew_ct {w : World} {n : Int} {L : List HProp} (H : Holds w L) (h0 : 0 ≤ n) (h1 : n ≤ 1000) :
    CT Try.prog 12 [.int .i64 n] w fun u w' => ∃ r, u = .pointer (some ⟨r, 0, none⟩) ∧ Holds w' (RefR r (RefM.new n.toNat) :: L) := by
  refine CT.enter (N := 9) Try.func12 rfl rfl rfl rfl ?_
  refine W.seq (fun K0 hK0 => ?_)
  refine W.region ?_
  refine O.ex (Ex.assign rfl) rfl ?_
  refine O.nil ?_
  refine hK0 _ _ _ ?_
  refine W.seq (fun K1 hK1 => ?_)
  refine W.drawTo _ (.take 0 (.take 2 (.two 1 3 (.one 3 (.take 4 (.one 5 (.take 6 .nil)))) (.one 1 (.take 4 (.one 5 (.take 6 .nil))))))) (mixed) (fun _ _ _ _ h => h) (by assumption) (PP.refl _) (by decide +kernel) (fun w H => ?_)
  refine OQ.ex rfl (fun w H => (Ex.move rfl)) rfl ?_
  refine OQ.ex rfl (fun w H => (Ex.move rfl)) rfl ?_
  refine OQ.two rfl rfl ?_ ?_
  · refine O.makeR (0 : Int) (e := Value.int .i64) (bt := 8) Try.runUnderlying52 Try.sizeOf3 Try.zeroValue3 Try.typeInfo3 rfl rfl rfl (fun s4 w hs4 H => ?_)
    refine O.thenNil ⟨(by first | exact Holds.to (by assumption) | assumption), ?_⟩
    refine OQ.step rfl ?_
    refine O.makeR (false : Bool) (e := Value.bool) (bt := 1) Try.runUnderlying48 Try.sizeOf4 Try.zeroValue4 Try.typeInfo4 rfl rfl rfl (fun s6 w hs6 H => ?_)
    refine O.thenNil ⟨(by first | exact Holds.to (by assumption) | assumption), ?_⟩
    refine OQ.ex rfl (fun w H => (Ex.build rfl (bld84_0_1 _ _ (by first | rfl | assumption) (by first | rfl | assumption)))) rfl ?_
    refine OQ.step rfl ?_
    refine O.boxP rfl (fun b8 w H => ?_)
    refine O.thenNil ⟨(by first | exact Holds.to (by assumption) | assumption), ?_⟩
    refine OQ.ex rfl (fun w H => (Ex.assign rfl)) rfl ?_
    refine OQ.done ?_
    refine hK1 _ _ _ ?_
    refine W.ret ?_
    try dsimp only [thenQ, blockQ, retQ]
    first | refine ⟨_, ⟨_, _, rfl, rfl, rfl⟩, ?_⟩ | (refine retD_mark ?_; intro w H; refine ⟨_, ⟨_, _, rfl, rfl, rfl⟩, ?_⟩) | (refine retD_mark2 ?_; intro w H; refine ⟨_, ⟨_, _, rfl, rfl, rfl⟩, ?_⟩)
    exact ⟨_, rfl, refR_open.2 ⟨_, _, Holds.to (by assumption)⟩⟩
  · refine O.makeR (false : Bool) (e := Value.bool) (bt := 1) Try.runUnderlying48 Try.sizeOf4 Try.zeroValue4 Try.typeInfo4 rfl rfl rfl (fun s6 w hs6 H => ?_)
    refine O.thenNil ⟨(by first | exact Holds.to (by assumption) | assumption), ?_⟩
    refine OQ.step rfl ?_
    refine O.makeR (0 : Int) (e := Value.int .i64) (bt := 8) Try.runUnderlying52 Try.sizeOf3 Try.zeroValue3 Try.typeInfo3 rfl rfl rfl (fun s4 w hs4 H => ?_)
    refine O.thenNil ⟨(by first | exact Holds.to (by assumption) | assumption), ?_⟩
    refine OQ.ex rfl (fun w H => (Ex.build rfl (bld84_0_1 _ _ (by first | rfl | assumption) (by first | rfl | assumption)))) rfl ?_
    refine OQ.step rfl ?_
    refine O.boxP rfl (fun b8 w H => ?_)
    refine O.thenNil ⟨(by first | exact Holds.to (by assumption) | assumption), ?_⟩
    refine OQ.ex rfl (fun w H => (Ex.assign rfl)) rfl ?_
    refine OQ.done ?_
    refine hK1 _ _ _ ?_
    refine W.ret ?_
    try dsimp only [thenQ, blockQ, retQ]
    first | refine ⟨_, ⟨_, _, rfl, rfl, rfl⟩, ?_⟩ | (refine retD_mark ?_; intro w H; refine ⟨_, ⟨_, _, rfl, rfl, rfl⟩, ?_⟩) | (refine retD_mark2 ?_; intro w H; refine ⟨_, ⟨_, _, rfl, rfl, rfl⟩, ?_⟩)
    exact ⟨_, rfl, refR_open.2 ⟨_, _, Holds.to (by assumption)⟩⟩

theorem refThere_ct {w : World} {r : Nat} {M : RefM} {i : Int} {L : List HProp} (H : Holds w (RefR r M :: L)) :
    CT Try.prog 14 [.pointer (some ⟨r, 0, none⟩), .int .i64 i] w fun u w' => u = .bool (decide (0 ≤ i ∧ i < M.V.length)) ∧ Holds w' (RefR r M :: L) := by
  obtain ⟨vv, wv, H⟩ := refR_open.1 H
  refine CT.enter (N := 16) Try.func14 rfl rfl rfl rfl ?_
  refine W.seq (fun K0 hK0 => ?_)
  refine W.region ?_
  refine O.ex (Ex.assign rfl) rfl ?_
  refine O.nil ?_
  refine hK0 _ _ _ ?_
  refine W.seq (fun K1 hK1 => ?_)
  refine W.region ?_
  refine O.ex (Ex.move rfl) rfl ?_
  refine O.ex (Ex.geq rfl rfl) rfl ?_
  refine O.ex (Ex.move rfl) rfl ?_
  first | refine O.split_p (t := 7) rfl (fun h7 => ?_) (fun h7 => ?_) | refine O.split (t := 7) rfl (fun h7 => ?_) (fun h7 => ?_)
  · refine O.guard_t rfl rfl ?_
    refine O.ex (Ex.move rfl) rfl ?_
    refine O.guard_t rfl rfl ?_
    refine O.ex (Ex.move rfl) rfl ?_
    refine O.guard_t rfl rfl ?_
    refine O.ex (by first | exact Ex.nilPtr rfl | exact Ex.nilFunc rfl | exact Ex.nilYield rfl) rfl ?_
    refine O.guard_t rfl rfl ?_
    refine O.ex (by first | exact Ex.field0 fld84_0 rfl | exact Ex.field fld84_0 rfl | exact Ex.fieldS fld84_0 rfl) rfl ?_
    refine O.guard_t rfl rfl ?_
    refine O.ex (by first | exact Ex.loadP Try.isAgg52 rfl | exact Ex.loadR Try.isAgg52 rfl | exact Ex.loadIn1 Try.isAgg52 rfl (Holds.to (by assumption))) rfl ?_
    refine O.guard_t rfl rfl ?_
    refine O.ex (by first | exact Ex.lenR Try.runUnderlying52 rfl | exact Ex.lenIn Try.runUnderlying52 rfl | exact Ex.lenL Try.runUnderlying52 rfl | exact Ex.len rfl Try.runUnderlying52 rfl) rfl ?_
    refine O.guard_t rfl rfl ?_
    refine O.ex (Ex.lss rfl rfl) rfl ?_
    refine O.ex (Ex.pick_t rfl rfl) rfl ?_
    refine O.ex (Ex.assign rfl) rfl ?_
    refine O.nil ?_
    refine hK1 _ _ _ ?_
    refine W.ret ?_
    try dsimp only [thenQ, blockQ, retQ]
    first | refine ⟨_, ⟨_, _, rfl, rfl, rfl⟩, ?_⟩ | (refine retD_mark ?_; intro w H; refine ⟨_, ⟨_, _, rfl, rfl, rfl⟩, ?_⟩) | (refine retD_mark2 ?_; intro w H; refine ⟨_, ⟨_, _, rfl, rfl, rfl⟩, ?_⟩)
    exact ⟨by simp [*, oneOf], refR_open.2 ⟨vv, wv, Holds.to (by assumption)⟩⟩
  · refine O.guard_f rfl rfl rfl rfl ?_
    refine O.guard_f rfl rfl rfl rfl ?_
    refine O.guard_f rfl rfl rfl rfl ?_
    refine O.guard_f rfl rfl rfl rfl ?_
    refine O.guard_f rfl rfl rfl rfl ?_
    refine O.guard_f rfl rfl rfl rfl ?_
    refine O.guard_f rfl rfl rfl rfl ?_
    refine O.ex (Ex.pick_f rfl rfl) rfl ?_
    refine O.ex (Ex.assign rfl) rfl ?_
    refine O.nil ?_
    refine hK1 _ _ _ ?_
    refine W.ret ?_
    try dsimp only [thenQ, blockQ, retQ]
    first | refine ⟨_, ⟨_, _, rfl, rfl, rfl⟩, ?_⟩ | (refine retD_mark ?_; intro w H; refine ⟨_, ⟨_, _, rfl, rfl, rfl⟩, ?_⟩) | (refine retD_mark2 ?_; intro w H; refine ⟨_, ⟨_, _, rfl, rfl, rfl⟩, ?_⟩)
    exact ⟨by simp [*, oneOf], refR_open.2 ⟨vv, wv, Holds.to (by assumption)⟩⟩

theorem refThere_t {w : World} {r : Nat} {M : RefM} {i : Int} {L : List HProp} (H : Holds w (RefR r M :: L)) (h : 0 ≤ i ∧ i < M.V.length) :
    CT Try.prog 14 [.pointer (some ⟨r, 0, none⟩), .int .i64 i] w fun u w' => u = .bool true ∧ Holds w' (RefR r M :: L) :=
  (refThere_ct H).mono fun u w' ⟨e, H⟩ => ⟨by rw [e, decide_eq_true h], H⟩
theorem refThere_f {w : World} {r : Nat} {M : RefM} {i : Int} {L : List HProp} (H : Holds w (RefR r M :: L)) (h : ¬ (0 ≤ i ∧ i < M.V.length)) :
    CT Try.prog 14 [.pointer (some ⟨r, 0, none⟩), .int .i64 i] w fun u w' => u = .bool false ∧ Holds w' (RefR r M :: L) :=
  (refThere_ct H).mono fun u w' ⟨e, H⟩ => ⟨by rw [e, decide_eq_false h], H⟩

theorem refSet_ct {w : World} {r : Nat} {M : RefM} {i x : Int} {L : List HProp} (H : Holds w (RefR r M :: L)) (hl : M.Is.length = M.V.length) (h0 : 0 ≤ i) (h1 : i < M.V.length) :
    CT Try.prog 15 [.pointer (some ⟨r, 0, none⟩), .int .i64 i, .int .i64 x] w fun u w' => u = .tuple #[] ∧ Holds w' (RefR r (M.set i x) :: L) := by
  obtain ⟨vv, wv, H⟩ := refR_open.1 H
  refine CT.enter (N := 19) Try.func15 rfl rfl rfl rfl ?_
  refine W.seq (fun K0 hK0 => ?_)
  refine W.region ?_
  refine O.ex (Ex.move rfl) rfl ?_
  refine O.ex (by first | exact Ex.nilPtr rfl | exact Ex.nilFunc rfl | exact Ex.nilYield rfl) rfl ?_
  refine O.ex (by first | exact Ex.field0 fld84_0 rfl | exact Ex.field fld84_0 rfl | exact Ex.fieldS fld84_0 rfl) rfl ?_
  refine O.ex (by first | exact Ex.loadP Try.isAgg52 rfl | exact Ex.loadR Try.isAgg52 rfl | exact Ex.loadIn1 Try.isAgg52 rfl (Holds.to (by assumption))) rfl ?_
  refine O.ex (Ex.move rfl) rfl ?_
  refine O.ex (Ex.move rfl) rfl ?_
  refine O.ex (by first | exact Ex.idxR Try.runUnderlying52 Try.sizeOf3 rfl rfl | exact Ex.idxIn Try.runUnderlying52 Try.sizeOf3 rfl rfl | exact Ex.idxS Try.runUnderlying52 Try.sizeOf3 rfl rfl | exact Ex.idx Try.runUnderlying52 Try.sizeOf3 rfl rfl (by omega) (by omega)) rfl ?_
  first | refine O.storeP Try.sizeOf3 rfl rfl (fun w H => ?_) | refine O.storeR Try.sizeOf3 rfl rfl (fun w H => ?_)
  refine O.nil ?_
  refine hK0 _ _ _ ?_
  refine W.region ?_
  refine O.ex (Ex.move rfl) rfl ?_
  refine O.ex (by first | exact Ex.nilPtr rfl | exact Ex.nilFunc rfl | exact Ex.nilYield rfl) rfl ?_
  refine O.ex (by first | exact Ex.field0 fld84_1 rfl | exact Ex.field fld84_1 rfl | exact Ex.fieldS fld84_1 rfl) rfl ?_
  refine O.ex (by first | exact Ex.loadP Try.isAgg48 rfl | exact Ex.loadR Try.isAgg48 rfl | exact Ex.loadIn1 Try.isAgg48 rfl (Holds.to (by assumption))) rfl ?_
  refine O.ex (Ex.move rfl) rfl ?_
  refine O.ex (by first | exact Ex.idxR Try.runUnderlying48 Try.sizeOf4 rfl rfl | exact Ex.idxIn Try.runUnderlying48 Try.sizeOf4 rfl rfl | exact Ex.idxS Try.runUnderlying48 Try.sizeOf4 rfl rfl | exact Ex.idx Try.runUnderlying48 Try.sizeOf4 rfl rfl (by omega) (by omega)) rfl ?_
  first | refine O.storeP Try.sizeOf4 rfl rfl (fun w H => ?_) | refine O.storeR Try.sizeOf4 rfl rfl (fun w H => ?_)
  refine O.nil ?_
  try dsimp only [thenQ, blockQ, retQ]
  first | refine ⟨_, rfl, ?_⟩ | (refine retD_mark ?_; intro w H; refine ⟨_, rfl, ?_⟩) | (refine retD_mark2 ?_; intro w H; refine ⟨_, rfl, ?_⟩)
  exact ⟨rfl, refR_open.2 ⟨vv, wv, Holds.to (by assumption)⟩⟩

theorem refClear_ct {w : World} {r : Nat} {M : RefM} {L : List HProp} (H : Holds w (RefR r M :: L)) (hl : M.V.length ≤ 1000) :
    CT Try.prog 17 [.pointer (some ⟨r, 0, none⟩)] w fun u w' => u = .tuple #[] ∧ Holds w' (RefR r M.clear :: L) := by
  obtain ⟨vv, wv, H⟩ := refR_open.1 H
  refine CT.enter (N := 11) Try.func17 rfl rfl rfl rfl ?_
  refine W.region ?_
  refine O.ex (Ex.move rfl) rfl ?_
  refine O.ex (Ex.move rfl) rfl ?_
  refine O.ex (by first | exact Ex.nilPtr rfl | exact Ex.nilFunc rfl | exact Ex.nilYield rfl) rfl ?_
  refine O.ex (by first | exact Ex.field0 fld84_0 rfl | exact Ex.field fld84_0 rfl | exact Ex.fieldS fld84_0 rfl) rfl ?_
  refine O.ex (by first | exact Ex.loadP Try.isAgg52 rfl | exact Ex.loadR Try.isAgg52 rfl | exact Ex.loadIn1 Try.isAgg52 rfl (Holds.to (by assumption))) rfl ?_
  refine O.ex (by first | exact Ex.lenR Try.runUnderlying52 rfl | exact Ex.lenIn Try.runUnderlying52 rfl | exact Ex.lenL Try.runUnderlying52 rfl | exact Ex.len rfl Try.runUnderlying52 rfl) rfl ?_
  refine O.makeR (false : Bool) (e := Value.bool) (bt := 1) Try.runUnderlying48 Try.sizeOf4 Try.zeroValue4 Try.typeInfo4 rfl rfl rfl (fun s8 w hs8 H => ?_)
  refine O.ex (by first | exact Ex.nilPtr rfl | exact Ex.nilFunc rfl | exact Ex.nilYield rfl) rfl ?_
  refine O.ex (by first | exact Ex.field0 fld84_1 rfl | exact Ex.field fld84_1 rfl | exact Ex.fieldS fld84_1 rfl) rfl ?_
  first | refine O.storeP Try.sizeOf48 rfl rfl (fun w H => ?_) | refine O.storeR Try.sizeOf48 rfl rfl (fun w H => ?_)
  refine O.nil ?_
  try dsimp only [thenQ, blockQ, retQ]
  first | refine ⟨_, rfl, ?_⟩ | (refine retD_mark ?_; intro w H; refine ⟨_, rfl, ?_⟩) | (refine retD_mark2 ?_; intro w H; refine ⟨_, rfl, ?_⟩)
  exact ⟨rfl, refR_open.2 ⟨_, _, Holds.to (by assumption)⟩⟩

def cntB (l : List Bool) (k : Int) : Int := ((l.take k.toNat).count true : Nat)
theorem cntB_zero (l : List Bool) : cntB l 0 = 0 := rfl
theorem cntB_succ (l : List Bool) (k : Int) (h0 : 0 ≤ k) (h1 : k < l.length) : cntB l (k + 1) = cntB l k + if l.getD k.toNat default = true then 1 else 0 := by
  unfold cntB
  rw [show (k + 1).toNat = k.toNat + 1 from by omega, List.take_succ_eq_append_getElem (by omega), List.count_append]
  have : l.getD k.toNat default = l[k.toNat] := by simp [List.getD_eq_getElem?_getD, show k.toNat < l.length from by omega]
  rw [this]
  cases l[k.toNat] <;> simp
theorem cntB_le (l : List Bool) (k : Int) : 0 ≤ cntB l k ∧ cntB l k ≤ l.length := by
  unfold cntB
  have := List.count_le_length (a := true) (l := l.take k.toNat)
  have := List.length_take_le k.toNat l
  have := List.length_take_le' k.toNat l
  omega
theorem refLen_ct {w : World} {r : Nat} {M : RefM} {L : List HProp} (H : Holds w (RefR r M :: L)) (hl : M.Is.length ≤ 1000) :
    CT Try.prog 47 [.pointer (some ⟨r, 0, none⟩)] w fun u w' => u = .int .i64 (M.Is.count true : Nat) ∧ Holds w' (RefR r M :: L) := by
  obtain ⟨vv, wv, H⟩ := refR_open.1 H
  refine CT.enter (N := 24) Try.func47 rfl rfl rfl rfl ?_
  refine W.seq (fun K0 hK0 => ?_)
  refine W.region ?_
  refine O.ex (Ex.assign rfl) rfl ?_
  refine O.nil ?_
  refine hK0 _ _ _ ?_
  refine W.seq (fun K1 hK1 => ?_)
  refine W.region ?_
  refine O.ex (Ex.assign rfl) rfl ?_
  refine O.nil ?_
  refine hK1 _ _ _ ?_
  refine W.seq (fun K2 hK2 => ?_)
  refine W.seq (fun K3 hK3 => ?_)
  refine W.region ?_
  refine O.ex (Ex.assign rfl) rfl ?_
  refine O.nil ?_
  refine hK3 _ _ _ ?_
  refine W.block ?_
  refine W.loop (σ := Int) (fun k => [(0, .pointer (some ⟨r, 0, none⟩)), (3, .int .i64 (cntB M.Is k)), (4, .int .i64 k)]) (fun k ds w => ds = [] ∧ 0 ≤ k ∧ k ≤ M.Is.length ∧ Holds w (pt r (.cells #[vv, wv] 84 (0, 0)) :: arr 3 (Value.int .i64) vv M.V :: arr 4 Value.bool wv M.Is :: L)) (fun k => (M.Is.length - k).toNat) 0 ⟨rfl, rfl, rfl, trivial⟩ ⟨rfl, by omega, by omega, H⟩ ?_
  rintro k _ w ⟨rfl, hk0, hk1, H⟩
  have hb := cntB_le M.Is k
  refine W.seq (fun K4 hK4 => ?_)
  refine W.seq (fun K5 hK5 => ?_)
  refine W.region ?_
  refine O.ex (Ex.move rfl) rfl ?_
  refine O.ex (Ex.move rfl) rfl ?_
  refine O.ex (by first | exact Ex.nilPtr rfl | exact Ex.nilFunc rfl | exact Ex.nilYield rfl) rfl ?_
  refine O.ex (by first | exact Ex.field0 fld84_1 rfl | exact Ex.field fld84_1 rfl | exact Ex.fieldS fld84_1 rfl) rfl ?_
  refine O.ex (by first | exact Ex.loadP Try.isAgg48 rfl | exact Ex.loadR Try.isAgg48 rfl | exact Ex.loadIn1 Try.isAgg48 rfl (Holds.to (by assumption))) rfl ?_
  refine O.ex (by first | exact Ex.lenR Try.runUnderlying48 rfl | exact Ex.lenIn Try.runUnderlying48 rfl | exact Ex.lenL Try.runUnderlying48 rfl | exact Ex.len rfl Try.runUnderlying48 rfl) rfl ?_
  refine O.ex (Ex.lss rfl rfl) rfl ?_
  refine O.nil ?_
  refine hK5 _ _ _ ?_
  first | refine W.cond_p rfl (fun hlt => ?_) (fun hge => ?_) | refine W.cond_b rfl (fun hlt => ?_) (fun hge => ?_)
  · refine W.skip ?_
    refine hK4 _ _ _ ?_
    refine W.seq (fun K6 hK6 => ?_)
    refine W.block ?_
    refine W.seq (fun K7 hK7 => ?_)
    refine W.region ?_
    refine O.ex (Ex.move rfl) rfl ?_
    refine O.ex (by first | exact Ex.nilPtr rfl | exact Ex.nilFunc rfl | exact Ex.nilYield rfl) rfl ?_
    refine O.ex (by first | exact Ex.field0 fld84_1 rfl | exact Ex.field fld84_1 rfl | exact Ex.fieldS fld84_1 rfl) rfl ?_
    refine O.ex (by first | exact Ex.loadP Try.isAgg48 rfl | exact Ex.loadR Try.isAgg48 rfl | exact Ex.loadIn1 Try.isAgg48 rfl (Holds.to (by assumption))) rfl ?_
    refine O.ex (Ex.move rfl) rfl ?_
    refine O.ex (by first | exact Ex.idxR Try.runUnderlying48 Try.sizeOf4 rfl rfl | exact Ex.idxIn Try.runUnderlying48 Try.sizeOf4 rfl rfl | exact Ex.idxS Try.runUnderlying48 Try.sizeOf4 rfl rfl | exact Ex.idx Try.runUnderlying48 Try.sizeOf4 rfl rfl (by omega) (by omega)) rfl ?_
    refine O.ex (by first | exact Ex.loadP Try.isAgg4 rfl | exact Ex.loadR Try.isAgg4 rfl | exact Ex.loadIn1 Try.isAgg4 rfl (Holds.to (by assumption))) rfl ?_
    refine O.nil ?_
    refine hK7 _ _ _ ?_
    first | refine W.cond_p rfl (fun h20 => ?_) (fun h20 => ?_) | refine W.cond_b rfl (fun h20 => ?_) (fun h20 => ?_)
    · refine W.region ?_
      refine O.ex (Ex.move rfl) rfl ?_
      refine O.ex (by first | exact Ex.addI rfl rfl | exact Ex.add rfl rfl rfl) rfl ?_
      refine O.ex (Ex.assign rfl) rfl ?_
      refine O.nil ?_
      refine hK6 _ _ _ ?_
      refine W.region ?_
      refine O.ex (Ex.move rfl) rfl ?_
      refine O.ex (by first | exact Ex.addI rfl rfl | exact Ex.add rfl rfl rfl) rfl ?_
      refine O.ex (Ex.assign rfl) rfl ?_
      refine O.nil ?_
      exact ⟨k + 1, ⟨rfl, by first | (rw [cntB_succ _ _ hk0 hlt, if_pos h20]; rfl) | (rw [cntB_succ _ _ hk0 hlt, if_neg (by rw [h20]; nofun), Int.add_zero]; rfl), rfl, trivial⟩, ⟨rfl, by omega, by omega, Holds.to (by assumption)⟩, by omega⟩
    · refine W.skip ?_
      refine hK6 _ _ _ ?_
      refine W.region ?_
      refine O.ex (Ex.move rfl) rfl ?_
      refine O.ex (by first | exact Ex.addI rfl rfl | exact Ex.add rfl rfl rfl) rfl ?_
      refine O.ex (Ex.assign rfl) rfl ?_
      refine O.nil ?_
      exact ⟨k + 1, ⟨rfl, by first | (rw [cntB_succ _ _ hk0 hlt, if_pos h20]; rfl) | (rw [cntB_succ _ _ hk0 hlt, if_neg (by rw [h20]; nofun), Int.add_zero]; rfl), rfl, trivial⟩, ⟨rfl, by omega, by omega, Holds.to (by assumption)⟩, by omega⟩
  · refine W.exit ?_
    refine hK2 _ _ _ ?_
    refine W.seq (fun K8 hK8 => ?_)
    refine W.region ?_
    refine O.ex (Ex.move rfl) rfl ?_
    refine O.ex (Ex.assign rfl) rfl ?_
    refine O.nil ?_
    refine hK8 _ _ _ ?_
    refine W.ret ?_
    try dsimp only [thenQ, blockQ, retQ]
    first | refine ⟨_, ⟨_, _, rfl, rfl, rfl⟩, ?_⟩ | (refine retD_mark ?_; intro w H; refine ⟨_, ⟨_, _, rfl, rfl, rfl⟩, ?_⟩) | (refine retD_mark2 ?_; intro w H; refine ⟨_, ⟨_, _, rfl, rfl, rfl⟩, ?_⟩)
    exact ⟨by simp only [oneOf]; rw [show k = M.Is.length from by omega]; unfold cntB; simp, refR_open.2 ⟨vv, wv, Holds.to (by assumption)⟩⟩
end Go.Proofs.Ytikdblejkmaloaa
