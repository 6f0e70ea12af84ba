import Derived.Test.YtliofdfhimmjmaaHeap3
namespace Go.Proofs.Ytliofdfhimmjmaa
open Go.Rr Go Hp
--STR
set_option linter.unusedVariables false
theorem getD_rep_neg {xs : List Int} {n : Nat} (hl : xs.length = n) (h : ∀ j, j < n → xs.getD j default = -1) : xs = List.replicate n (-1) := by
  refine Hp.ext _ _ (by simp [hl]) fun i hi => ?_
  rw [h i (by omega)]
  simp [List.getD_eq_getElem?_getD, show i < n by omega]
def HqI (h : Nat) (s : List (Option Int)) : HProp := hex fun tv => hex fun pv => hex fun qv => hex fun t => hex fun pl => hex fun pr => star [hp (HR RI s t pl pr), HpOI h tv pv qv t pl pr]
theorem hqI_open {w : World} {h : Nat} {s : List (Option Int)} {L : List HProp} : Holds w (HqI h s :: L) ↔ ∃ tv pv qv t pl pr, HR RI s t pl pr ∧ Holds w (HpOI h tv pv qv t pl pr :: L) := by
  unfold HqI
  simp only [Holds.hex, Holds.star, List.cons_append, List.nil_append, Holds.hp]
set_option maxHeartbeats 1000000 in
theorem newIH_ct {w : World} {n : Int} {L : List HProp} (H : Holds w L) :
    CT Try.prog 68 [.int .i64 n] w fun u w' => (¬ (0 ≤ n ∧ n ≤ 64) ∧ u = .tuple #[.pointer none, .int .i64 1] ∧ Holds w' L) ∨
      ((0 ≤ n ∧ n ≤ 64) ∧ ∃ h, u = .tuple #[.pointer (some ⟨h, 0, none⟩), .int .i64 0] ∧ Holds w' (HqI h (List.replicate n.toNat none) :: L)) := by
  refine CT.enter (N := 34) Try.func68 rfl rfl rfl rfl ?_
  refine W.seq (fun K0 hK0 => ?_)
  refine W.region ?_
  refine O.ex (Ex.assign rfl) rfl ?_
  refine O.ex (Ex.assign rfl) rfl ?_
  refine O.nil ?_
  refine hK0 _ _ _ ?_
  refine W.seq (fun K1 hK1 => ?_)
  refine W.seq (fun K2 hK2 => ?_)
  refine W.region ?_
  refine O.ex (Ex.move rfl) rfl ?_
  refine O.ex (Ex.lss rfl rfl) rfl ?_
  refine O.ex (Ex.move rfl) rfl ?_
  first | refine O.split_p (t := 8) rfl (fun h8 => ?_) (fun h8 => ?_) | refine O.split (t := 8) rfl (fun h8 => ?_) (fun h8 => ?_)
  · refine O.guard_f rfl rfl rfl rfl ?_
    refine O.guard_f rfl rfl rfl rfl ?_
    refine O.ex (Ex.pick_t rfl rfl) rfl ?_
    refine O.nil ?_
    refine hK2 _ _ _ ?_
    refine W.cond_t rfl ?_
    refine W.seq (fun K3 hK3 => ?_)
    refine W.region ?_
    refine O.ex (Ex.assign rfl) rfl ?_
    refine O.ex (Ex.assign rfl) rfl ?_
    refine O.nil ?_
    refine hK3 _ _ _ ?_
    refine W.ret ?_
    try dsimp only [thenQ, blockQ, retQ]
    first | refine ⟨_, ⟨_, _, rfl, rfl, _, _, rfl, rfl, rfl⟩, ?_⟩ | (refine retD_mark ?_; intro w H; refine ⟨_, ⟨_, _, rfl, rfl, _, _, rfl, rfl, rfl⟩, ?_⟩) | (refine retD_mark2 ?_; intro w H; refine ⟨_, ⟨_, _, rfl, rfl, _, _, rfl, rfl, rfl⟩, ?_⟩)
    first
    | exact .inl ⟨by omega, rfl, by assumption⟩
    | (refine .inr ⟨by omega, _, rfl, hqI_open.2 ⟨_, _, _, [], xs, List.replicate k (0 : Int), ?_, hpOI_open.2 (Holds.to (by assumption))⟩⟩
       obtain rfl : i = k := by omega
       rw [getD_rep_neg hxl hxs]
       exact HR.new i (by omega) (0 : Int))
  · refine O.guard_t rfl rfl ?_
    refine O.ex (Ex.move rfl) rfl ?_
    refine O.guard_t rfl rfl ?_
    refine O.ex (Ex.gtr rfl rfl) rfl ?_
    refine O.ex (Ex.pick_f rfl rfl) rfl ?_
    refine O.nil ?_
    refine hK2 _ _ _ ?_
    first | refine W.cond_p rfl (fun h11 => ?_) (fun h11 => ?_) | refine W.cond_b rfl (fun h11 => ?_) (fun h11 => ?_)
    · refine W.seq (fun K4 hK4 => ?_)
      refine W.region ?_
      refine O.ex (Ex.assign rfl) rfl ?_
      refine O.ex (Ex.assign rfl) rfl ?_
      refine O.nil ?_
      refine hK4 _ _ _ ?_
      refine W.ret ?_
      try dsimp only [thenQ, blockQ, retQ]
      first | refine ⟨_, ⟨_, _, rfl, rfl, _, _, rfl, rfl, rfl⟩, ?_⟩ | (refine retD_mark ?_; intro w H; refine ⟨_, ⟨_, _, rfl, rfl, _, _, rfl, rfl, rfl⟩, ?_⟩) | (refine retD_mark2 ?_; intro w H; refine ⟨_, ⟨_, _, rfl, rfl, _, _, rfl, rfl, rfl⟩, ?_⟩)
      first
      | exact .inl ⟨by omega, rfl, by assumption⟩
      | (refine .inr ⟨by omega, _, rfl, hqI_open.2 ⟨_, _, _, [], xs, List.replicate k (0 : Int), ?_, hpOI_open.2 (Holds.to (by assumption))⟩⟩
         obtain rfl : i = k := by omega
         rw [getD_rep_neg hxl hxs]
         exact HR.new i (by omega) (0 : Int))
    · refine W.skip ?_
      refine hK1 _ _ _ ?_
      refine W.seq (fun K5 hK5 => ?_)
      refine W.drawTo _ (.take 0 (.take 2 (.two 1 3 (.one 3 (.take 4 (.one 5 (.take 6 .nil)))) (.one 1 (.take 4 (.one 5 (.take 6 .nil))))))) (mixed) (fun _ _ _ _ h => h) (by assumption) (PP.refl _) (by decide +kernel) (fun w H => ?_)
      obtain ⟨k, rfl⟩ : ∃ k : Nat, n = k := ⟨n.toNat, by omega⟩
      refine OQ.ex rfl (fun w H => (Ex.move rfl)) rfl ?_
      refine OQ.ex rfl (fun w H => (Ex.move rfl)) rfl ?_
      refine OQ.two rfl rfl ?_ ?_
      · refine O.makeR (0 : Int) (e := Value.int .i64) (bt := 8) Try.runUnderlying28 Try.sizeOf3 Try.zeroValue3 Try.typeInfo3 rfl rfl rfl (fun s13 w hs13 H => ?_)
        refine O.thenNil ⟨(by first | exact Holds.to (by assumption) | assumption), ?_⟩
        refine OQ.step rfl ?_
        refine O.makeR (0 : Int) (e := Value.int .i64) (bt := 8) Try.runUnderlying28 Try.sizeOf3 Try.zeroValue3 Try.typeInfo3 rfl rfl rfl (fun s15 w hs15 H => ?_)
        refine O.thenNil ⟨(by first | exact Holds.to (by assumption) | assumption), ?_⟩
        refine OQ.ex rfl (fun w H => (Ex.build rfl (bld126_1_2 _ _ (by first | rfl | assumption) (by first | rfl | assumption)))) rfl ?_
        refine OQ.step rfl ?_
        refine O.boxP rfl (fun b17 w H => ?_)
        refine O.thenNil ⟨(by first | exact Holds.to (by assumption) | assumption), ?_⟩
        refine OQ.ex rfl (fun w H => (Ex.assign rfl)) rfl ?_
        refine OQ.done ?_
        refine hK5 _ _ _ ?_
        refine W.seq (fun K6 hK6 => ?_)
        refine W.seq (fun K7 hK7 => ?_)
        refine W.region ?_
        refine O.ex (Ex.move rfl) rfl ?_
        refine O.ex (by first | exact Ex.nilPtr rfl | exact Ex.nilFunc rfl | exact Ex.nilYield rfl) rfl ?_
        refine O.ex (by first | exact Ex.field0 fld126_1 rfl | exact Ex.field fld126_1 rfl | exact Ex.fieldS fld126_1 rfl) rfl ?_
        refine O.ex (by first | exact Ex.loadP Try.isAgg28 rfl | exact Ex.loadR Try.isAgg28 rfl | exact Ex.loadIn1 Try.isAgg28 rfl (Holds.to (by assumption))) rfl ?_
        refine O.ex (by first | exact Ex.lenR Try.runUnderlying28 rfl | exact Ex.lenIn Try.runUnderlying28 rfl | exact Ex.lenL Try.runUnderlying28 rfl | exact Ex.len rfl Try.runUnderlying28 rfl) rfl ?_
        refine O.ex (Ex.move rfl) rfl ?_
        refine O.nil ?_
        refine hK7 _ _ _ ?_
        refine W.block ?_
        rw [Int.toNat_natCast] at H
        have lk : (List.replicate k (0 : Int)).length = k := by simp
        have H := arr_nil (T := 3) (e := eN) H
        refine W.loop (σ := Nat) (fun i => [(0, .int .i64 k), (2, .pointer none), (3, .int .i64 0), (4, .pointer (some ⟨b17, 0, none⟩)), (22, .int .i64 ((List.replicate k (0 : Int)).length : Int)), (23, .int .i64 (i : Int))]) (fun i ds w => ds = [] ∧ i ≤ k ∧ ∃ xs : List Int, xs.length = k ∧ (∀ j, j < i → xs.getD j default = -1) ∧ Holds w (pt b17 (.cells #[.slice none 0 0, s13, s15] 126 (0, 0)) :: arr 3 (Value.int .i64) s13 xs :: arr 3 (Value.int .i64) s15 (List.replicate k (0 : Int)) :: arr 3 eN (.slice none 0 0) [] :: L)) (fun i => k - i) 0 ⟨rfl, rfl, rfl, rfl, rfl, rfl, trivial⟩ ⟨rfl, by omega, _, lk, by omega, Holds.to (by assumption)⟩ ?_
        clear H
        rintro i _ w ⟨rfl, hi, xs, hxl, hxs, H⟩
        refine W.seq (fun K8 hK8 => ?_)
        refine W.region ?_
        refine O.ex (Ex.lss rfl rfl) rfl ?_
        refine O.nil ?_
        refine hK8 _ _ _ ?_
        refine W.seq (fun K9 hK9 => ?_)
        first | refine W.cond_p rfl (fun hlt => ?_) (fun hge => ?_) | refine W.cond_b rfl (fun hlt => ?_) (fun hge => ?_)
        · refine W.skip ?_
          refine hK9 _ _ _ ?_
          refine W.seq (fun K10 hK10 => ?_)
          refine W.block ?_
          refine W.seq (fun K11 hK11 => ?_)
          refine W.region ?_
          refine O.ex (Ex.move rfl) rfl ?_
          refine O.ex (Ex.assign rfl) rfl ?_
          refine O.nil ?_
          refine hK11 _ _ _ ?_
          refine W.region ?_
          refine O.ex (Ex.move rfl) rfl ?_
          refine O.ex (by first | exact Ex.nilPtr rfl | exact Ex.nilFunc rfl | exact Ex.nilYield rfl) rfl ?_
          refine O.ex (by first | exact Ex.field0 fld126_1 rfl | exact Ex.field fld126_1 rfl | exact Ex.fieldS fld126_1 rfl) rfl ?_
          refine O.ex (by first | exact Ex.loadP Try.isAgg28 rfl | exact Ex.loadR Try.isAgg28 rfl | exact Ex.loadIn1 Try.isAgg28 rfl (Holds.to (by assumption))) rfl ?_
          refine O.ex (Ex.move rfl) rfl ?_
          refine O.ex (by first | exact Ex.idxR Try.runUnderlying28 Try.sizeOf3 rfl rfl | exact Ex.idxIn Try.runUnderlying28 Try.sizeOf3 rfl rfl | exact Ex.idxS Try.runUnderlying28 Try.sizeOf3 rfl rfl | exact Ex.idx Try.runUnderlying28 Try.sizeOf3 rfl rfl (by omega) (by omega)) rfl ?_
          first | refine O.storeP Try.sizeOf3 rfl rfl (fun w H => ?_) | refine O.storeR Try.sizeOf3 rfl rfl (fun w H => ?_)
          refine O.nil ?_
          refine hK10 _ _ _ ?_
          refine W.region ?_
          refine O.ex (by first | exact Ex.addI rfl rfl | exact Ex.add rfl rfl rfl) rfl ?_
          refine O.ex (Ex.move rfl) rfl ?_
          refine O.nil ?_
          refine ⟨i + 1, ⟨rfl, rfl, rfl, rfl, rfl, rfl, trivial⟩, ⟨rfl, by omega, xs.set i (-1), (by rw [List.length_set]; exact hxl), fun j hj => ?_, Holds.to (by assumption)⟩, by omega⟩
          rw [Hp.gs _ _ _ _ (by omega)]
          split
          · rfl
          · exact hxs j (by omega)
        · refine W.exit ?_
          refine hK6 _ _ _ ?_
          refine W.seq (fun K12 hK12 => ?_)
          refine W.region ?_
          refine O.ex (Ex.move rfl) rfl ?_
          refine O.ex (Ex.assign rfl) rfl ?_
          refine O.ex (Ex.assign rfl) rfl ?_
          refine O.nil ?_
          refine hK12 _ _ _ ?_
          refine W.ret ?_
          try dsimp only [thenQ, blockQ, retQ]
          first | refine ⟨_, ⟨_, _, rfl, rfl, _, _, rfl, rfl, rfl⟩, ?_⟩ | (refine retD_mark ?_; intro w H; refine ⟨_, ⟨_, _, rfl, rfl, _, _, rfl, rfl, rfl⟩, ?_⟩) | (refine retD_mark2 ?_; intro w H; refine ⟨_, ⟨_, _, rfl, rfl, _, _, rfl, rfl, rfl⟩, ?_⟩)
          first
          | exact .inl ⟨by omega, rfl, by assumption⟩
          | (refine .inr ⟨by omega, _, rfl, hqI_open.2 ⟨_, _, _, [], xs, List.replicate k (0 : Int), ?_, hpOI_open.2 (Holds.to (by assumption))⟩⟩
             obtain rfl : i = k := by omega
             rw [getD_rep_neg hxl hxs]
             exact HR.new i (by omega) (0 : Int))
      · refine O.makeR (0 : Int) (e := Value.int .i64) (bt := 8) Try.runUnderlying28 Try.sizeOf3 Try.zeroValue3 Try.typeInfo3 rfl rfl rfl (fun s15 w hs15 H => ?_)
        refine O.thenNil ⟨(by first | exact Holds.to (by assumption) | assumption), ?_⟩
        refine OQ.step rfl ?_
        refine O.makeR (0 : Int) (e := Value.int .i64) (bt := 8) Try.runUnderlying28 Try.sizeOf3 Try.zeroValue3 Try.typeInfo3 rfl rfl rfl (fun s13 w hs13 H => ?_)
        refine O.thenNil ⟨(by first | exact Holds.to (by assumption) | assumption), ?_⟩
        refine OQ.ex rfl (fun w H => (Ex.build rfl (bld126_1_2 _ _ (by first | rfl | assumption) (by first | rfl | assumption)))) rfl ?_
        refine OQ.step rfl ?_
        refine O.boxP rfl (fun b17 w H => ?_)
        refine O.thenNil ⟨(by first | exact Holds.to (by assumption) | assumption), ?_⟩
        refine OQ.ex rfl (fun w H => (Ex.assign rfl)) rfl ?_
        refine OQ.done ?_
        refine hK5 _ _ _ ?_
        refine W.seq (fun K13 hK13 => ?_)
        refine W.seq (fun K14 hK14 => ?_)
        refine W.region ?_
        refine O.ex (Ex.move rfl) rfl ?_
        refine O.ex (by first | exact Ex.nilPtr rfl | exact Ex.nilFunc rfl | exact Ex.nilYield rfl) rfl ?_
        refine O.ex (by first | exact Ex.field0 fld126_1 rfl | exact Ex.field fld126_1 rfl | exact Ex.fieldS fld126_1 rfl) rfl ?_
        refine O.ex (by first | exact Ex.loadP Try.isAgg28 rfl | exact Ex.loadR Try.isAgg28 rfl | exact Ex.loadIn1 Try.isAgg28 rfl (Holds.to (by assumption))) rfl ?_
        refine O.ex (by first | exact Ex.lenR Try.runUnderlying28 rfl | exact Ex.lenIn Try.runUnderlying28 rfl | exact Ex.lenL Try.runUnderlying28 rfl | exact Ex.len rfl Try.runUnderlying28 rfl) rfl ?_
        refine O.ex (Ex.move rfl) rfl ?_
        refine O.nil ?_
        refine hK14 _ _ _ ?_
        refine W.block ?_
        rw [Int.toNat_natCast] at H
        have lk : (List.replicate k (0 : Int)).length = k := by simp
        have H := arr_nil (T := 3) (e := eN) H
        refine W.loop (σ := Nat) (fun i => [(0, .int .i64 k), (2, .pointer none), (3, .int .i64 0), (4, .pointer (some ⟨b17, 0, none⟩)), (22, .int .i64 ((List.replicate k (0 : Int)).length : Int)), (23, .int .i64 (i : Int))]) (fun i ds w => ds = [] ∧ i ≤ k ∧ ∃ xs : List Int, xs.length = k ∧ (∀ j, j < i → xs.getD j default = -1) ∧ Holds w (pt b17 (.cells #[.slice none 0 0, s13, s15] 126 (0, 0)) :: arr 3 (Value.int .i64) s13 xs :: arr 3 (Value.int .i64) s15 (List.replicate k (0 : Int)) :: arr 3 eN (.slice none 0 0) [] :: L)) (fun i => k - i) 0 ⟨rfl, rfl, rfl, rfl, rfl, rfl, trivial⟩ ⟨rfl, by omega, _, lk, by omega, Holds.to (by assumption)⟩ ?_
        clear H
        rintro i _ w ⟨rfl, hi, xs, hxl, hxs, H⟩
        refine W.seq (fun K15 hK15 => ?_)
        refine W.region ?_
        refine O.ex (Ex.lss rfl rfl) rfl ?_
        refine O.nil ?_
        refine hK15 _ _ _ ?_
        refine W.seq (fun K16 hK16 => ?_)
        first | refine W.cond_p rfl (fun hlt => ?_) (fun hge => ?_) | refine W.cond_b rfl (fun hlt => ?_) (fun hge => ?_)
        · refine W.skip ?_
          refine hK16 _ _ _ ?_
          refine W.seq (fun K17 hK17 => ?_)
          refine W.block ?_
          refine W.seq (fun K18 hK18 => ?_)
          refine W.region ?_
          refine O.ex (Ex.move rfl) rfl ?_
          refine O.ex (Ex.assign rfl) rfl ?_
          refine O.nil ?_
          refine hK18 _ _ _ ?_
          refine W.region ?_
          refine O.ex (Ex.move rfl) rfl ?_
          refine O.ex (by first | exact Ex.nilPtr rfl | exact Ex.nilFunc rfl | exact Ex.nilYield rfl) rfl ?_
          refine O.ex (by first | exact Ex.field0 fld126_1 rfl | exact Ex.field fld126_1 rfl | exact Ex.fieldS fld126_1 rfl) rfl ?_
          refine O.ex (by first | exact Ex.loadP Try.isAgg28 rfl | exact Ex.loadR Try.isAgg28 rfl | exact Ex.loadIn1 Try.isAgg28 rfl (Holds.to (by assumption))) rfl ?_
          refine O.ex (Ex.move rfl) rfl ?_
          refine O.ex (by first | exact Ex.idxR Try.runUnderlying28 Try.sizeOf3 rfl rfl | exact Ex.idxIn Try.runUnderlying28 Try.sizeOf3 rfl rfl | exact Ex.idxS Try.runUnderlying28 Try.sizeOf3 rfl rfl | exact Ex.idx Try.runUnderlying28 Try.sizeOf3 rfl rfl (by omega) (by omega)) rfl ?_
          first | refine O.storeP Try.sizeOf3 rfl rfl (fun w H => ?_) | refine O.storeR Try.sizeOf3 rfl rfl (fun w H => ?_)
          refine O.nil ?_
          refine hK17 _ _ _ ?_
          refine W.region ?_
          refine O.ex (by first | exact Ex.addI rfl rfl | exact Ex.add rfl rfl rfl) rfl ?_
          refine O.ex (Ex.move rfl) rfl ?_
          refine O.nil ?_
          refine ⟨i + 1, ⟨rfl, rfl, rfl, rfl, rfl, rfl, trivial⟩, ⟨rfl, by omega, xs.set i (-1), (by rw [List.length_set]; exact hxl), fun j hj => ?_, Holds.to (by assumption)⟩, by omega⟩
          rw [Hp.gs _ _ _ _ (by omega)]
          split
          · rfl
          · exact hxs j (by omega)
        · refine W.exit ?_
          refine hK13 _ _ _ ?_
          refine W.seq (fun K19 hK19 => ?_)
          refine W.region ?_
          refine O.ex (Ex.move rfl) rfl ?_
          refine O.ex (Ex.assign rfl) rfl ?_
          refine O.ex (Ex.assign rfl) rfl ?_
          refine O.nil ?_
          refine hK19 _ _ _ ?_
          refine W.ret ?_
          try dsimp only [thenQ, blockQ, retQ]
          first | refine ⟨_, ⟨_, _, rfl, rfl, _, _, rfl, rfl, rfl⟩, ?_⟩ | (refine retD_mark ?_; intro w H; refine ⟨_, ⟨_, _, rfl, rfl, _, _, rfl, rfl, rfl⟩, ?_⟩) | (refine retD_mark2 ?_; intro w H; refine ⟨_, ⟨_, _, rfl, rfl, _, _, rfl, rfl, rfl⟩, ?_⟩)
          first
          | exact .inl ⟨by omega, rfl, by assumption⟩
          | (refine .inr ⟨by omega, _, rfl, hqI_open.2 ⟨_, _, _, [], xs, List.replicate k (0 : Int), ?_, hpOI_open.2 (Holds.to (by assumption))⟩⟩
             obtain rfl : i = k := by omega
             rw [getD_rep_neg hxl hxs]
             exact HR.new i (by omega) (0 : Int))
theorem peekIH_ct {w : World} {h : Nat} {s : List (Option Int)} {L : List HProp} (H : Holds w (HqI h s :: L)) :
    CT Try.prog 94 [.pointer (some ⟨h, 0, none⟩)] w fun u w' => u = .tuple #[.int .i64 (pkN RI s : Int), .int .i64 (pkP RI s), .bool (pkO RI s)] ∧ Holds w' (HqI h s :: L) := by
  obtain ⟨tv, pv, qv, t, pl, pr, hr, H⟩ := hqI_open.1 H
  have H := hpOI_open.1 H
  refine CT.enter (N := 31) Try.func94 rfl rfl rfl rfl ?_
  refine W.seq (fun K0 hK0 => ?_)
  refine W.region ?_
  refine O.ex (Ex.assign rfl) rfl ?_
  refine O.ex (Ex.assign rfl) rfl ?_
  refine O.ex (Ex.assign rfl) rfl ?_
  refine O.nil ?_
  refine hK0 _ _ _ ?_
  refine W.seq (fun K1 hK1 => ?_)
  refine W.seq (fun K2 hK2 => ?_)
  refine W.region ?_
  refine O.ex (Ex.move rfl) rfl ?_
  refine O.ex (by first | exact Ex.nilPtr rfl | exact Ex.nilFunc rfl | exact Ex.nilYield rfl) rfl ?_
  refine O.ex (by first | exact Ex.field0 fld126_0 rfl | exact Ex.field fld126_0 rfl | exact Ex.fieldS fld126_0 rfl) rfl ?_
  refine O.ex (by first | exact Ex.loadP Try.isAgg28 rfl | exact Ex.loadR Try.isAgg28 rfl | exact Ex.loadIn1 Try.isAgg28 rfl (Holds.to (by assumption))) rfl ?_
  refine O.ex (by first | exact Ex.lenR Try.runUnderlying28 rfl | exact Ex.lenIn Try.runUnderlying28 rfl | exact Ex.lenL Try.runUnderlying28 rfl | exact Ex.len rfl Try.runUnderlying28 rfl) rfl ?_
  refine O.ex (Ex.eqlI rfl rfl) rfl ?_
  refine O.nil ?_
  refine hK2 _ _ _ ?_
  first | refine W.cond_p rfl (fun hz => ?_) (fun hnz => ?_) | refine W.cond_b rfl (fun hz => ?_) (fun hnz => ?_)
  · refine W.seq (fun K3 hK3 => ?_)
    refine W.region ?_
    refine O.ex (Ex.assign rfl) rfl ?_
    refine O.nil ?_
    refine hK3 _ _ _ ?_
    refine W.seq (fun K4 hK4 => ?_)
    refine W.region ?_
    refine O.ex (Ex.move rfl) rfl ?_
    refine O.ex (Ex.assign rfl) rfl ?_
    refine O.ex (Ex.assign rfl) rfl ?_
    refine O.ex (Ex.assign rfl) rfl ?_
    refine O.nil ?_
    refine hK4 _ _ _ ?_
    refine W.ret ?_
    try dsimp only [thenQ, blockQ, retQ]
    first | refine ⟨_, ⟨_, _, rfl, rfl, _, _, rfl, rfl, _, _, rfl, rfl, rfl⟩, ?_⟩ | (refine retD_mark ?_; intro w H; refine ⟨_, ⟨_, _, rfl, rfl, _, _, rfl, rfl, _, _, rfl, rfl, rfl⟩, ?_⟩) | (refine retD_mark2 ?_; intro w H; refine ⟨_, ⟨_, _, rfl, rfl, _, _, rfl, rfl, _, _, rfl, rfl, rfl⟩, ?_⟩)
    first
    | (obtain rfl : t = [] := List.length_eq_zero_iff.1 (by omega)
       refine ⟨?_, hqI_open.2 ⟨_, _, _, _, _, _, hr, hpOI_open.2 (Holds.to (by assumption))⟩⟩
       have e := hr.empty
       unfold pkN pkP pkO
       rw [e]; rfl)
    | (refine ⟨?_, hqI_open.2 ⟨_, _, _, _, _, _, hr, hpOI_open.2 (Holds.to (by assumption))⟩⟩
       have e := hr.first soI h0
       have e2 := hr.pg (gm t 0 h0)
       unfold pkN pkP pkO
       rw [e]
       simp only [e2]; rfl)
  · refine W.skip ?_
    refine hK1 _ _ _ ?_
    refine W.seq (fun K5 hK5 => ?_)
    have h0 : 0 < t.length := by omega
    have hx : t.getD (Int.toNat 0) default < pr.length := by rw [hr.lp]; exact hr.pi.lt 0 h0
    have s1 := arr_sl (e := eN) (v := tv) (xs := t) (Holds.to (by assumption)) (by omega)
    have s2 := arr_sl (e := Value.int .i64) (v := qv) (xs := pr) (Holds.to (by assumption)) (by omega)
    refine W.drawTo _ (.take 0 (.take 1 (.take 2 (.take 3 (.take 4 (.take 5 (.take 6 (.take 7 (.take 8 (.take 9 (.take 10 (.take 11 (.take 12 (.take 13 (.take 14 (.take 15 (.take 16 (.take 17 (.take 18 (.take 19 (.take 20 .nil))))))))))))))))))))) (mixed) (fun _ _ _ _ h => h) (by assumption) (PP.refl _) (by decide +kernel) (fun w H => ?_)
    refine OQ.ex rfl (fun w H => (Ex.move rfl)) rfl ?_
    refine OQ.ex rfl (fun w H => (by first | exact Ex.nilPtr rfl | exact Ex.nilFunc rfl | exact Ex.nilYield rfl)) rfl ?_
    refine OQ.ex rfl (fun w H => (by first | exact Ex.field0 fld126_0 rfl | exact Ex.field fld126_0 rfl | exact Ex.fieldS fld126_0 rfl)) rfl ?_
    refine OQ.ex rfl (fun w H => (by first | exact Ex.loadP Try.isAgg28 rfl | exact Ex.loadR Try.isAgg28 rfl | exact Ex.loadIn1 Try.isAgg28 rfl (Holds.to (by assumption)))) rfl ?_
    refine OQ.ex rfl (fun w H => (by first | exact Ex.idxR Try.runUnderlying28 Try.sizeOf3 rfl rfl | exact Ex.idxIn Try.runUnderlying28 Try.sizeOf3 rfl rfl | exact Ex.idxS Try.runUnderlying28 Try.sizeOf3 rfl rfl | exact Ex.idx Try.runUnderlying28 Try.sizeOf3 rfl rfl (by omega) (by omega))) rfl ?_
    refine OQ.ex rfl (fun w H => (by first | exact Ex.loadP Try.isAgg3 rfl | exact Ex.loadR Try.isAgg3 rfl | exact Ex.loadIn1 Try.isAgg3 rfl (Holds.to (by assumption)))) rfl ?_
    refine OQ.ex rfl (fun w H => (Ex.move rfl)) rfl ?_
    refine OQ.ex rfl (fun w H => (by first | exact Ex.nilPtr rfl | exact Ex.nilFunc rfl | exact Ex.nilYield rfl)) rfl ?_
    refine OQ.ex rfl (fun w H => (by first | exact Ex.field0 fld126_2 rfl | exact Ex.field fld126_2 rfl | exact Ex.fieldS fld126_2 rfl)) rfl ?_
    refine OQ.ex rfl (fun w H => (by first | exact Ex.loadP Try.isAgg28 rfl | exact Ex.loadR Try.isAgg28 rfl | exact Ex.loadIn1 Try.isAgg28 rfl (Holds.to (by assumption)))) rfl ?_
    refine OQ.ex rfl (fun w H => (Ex.move rfl)) rfl ?_
    refine OQ.ex rfl (fun w H => (by first | exact Ex.nilPtr rfl | exact Ex.nilFunc rfl | exact Ex.nilYield rfl)) rfl ?_
    refine OQ.ex rfl (fun w H => (by first | exact Ex.field0 fld126_0 rfl | exact Ex.field fld126_0 rfl | exact Ex.fieldS fld126_0 rfl)) rfl ?_
    refine OQ.ex rfl (fun w H => (by first | exact Ex.loadP Try.isAgg28 rfl | exact Ex.loadR Try.isAgg28 rfl | exact Ex.loadIn1 Try.isAgg28 rfl (Holds.to (by assumption)))) rfl ?_
    refine OQ.ex rfl (fun w H => (by first | exact Ex.idxR Try.runUnderlying28 Try.sizeOf3 rfl rfl | exact Ex.idxIn Try.runUnderlying28 Try.sizeOf3 rfl rfl | exact Ex.idxS Try.runUnderlying28 Try.sizeOf3 rfl rfl | exact Ex.idx Try.runUnderlying28 Try.sizeOf3 rfl rfl (by omega) (by omega))) rfl ?_
    refine OQ.ex rfl (fun w H => (by first | exact Ex.loadP Try.isAgg3 rfl | exact Ex.loadR Try.isAgg3 rfl | exact Ex.loadIn1 Try.isAgg3 rfl (Holds.to (by assumption)))) rfl ?_
    refine OQ.ex rfl (fun w H => (by first | exact Ex.idxR Try.runUnderlying28 Try.sizeOf3 rfl rfl | exact Ex.idxIn Try.runUnderlying28 Try.sizeOf3 rfl rfl | exact Ex.idxS Try.runUnderlying28 Try.sizeOf3 rfl rfl | exact Ex.idx Try.runUnderlying28 Try.sizeOf3 rfl rfl (by omega) (by omega))) rfl ?_
    refine OQ.ex rfl (fun w H => (by first | exact Ex.loadP Try.isAgg3 rfl | exact Ex.loadR Try.isAgg3 rfl | exact Ex.loadIn1 Try.isAgg3 rfl (Holds.to (by assumption)))) rfl ?_
    refine OQ.ex rfl (fun w H => (Ex.assign rfl)) rfl ?_
    refine OQ.ex rfl (fun w H => (Ex.assign rfl)) rfl ?_
    refine OQ.ex rfl (fun w H => (Ex.assign rfl)) rfl ?_
    refine OQ.done ?_
    refine hK5 _ _ _ ?_
    refine W.ret ?_
    try dsimp only [thenQ, blockQ, retQ]
    first | refine ⟨_, ⟨_, _, rfl, rfl, _, _, rfl, rfl, _, _, rfl, rfl, rfl⟩, ?_⟩ | (refine retD_mark ?_; intro w H; refine ⟨_, ⟨_, _, rfl, rfl, _, _, rfl, rfl, _, _, rfl, rfl, rfl⟩, ?_⟩) | (refine retD_mark2 ?_; intro w H; refine ⟨_, ⟨_, _, rfl, rfl, _, _, rfl, rfl, _, _, rfl, rfl, rfl⟩, ?_⟩)
    first
    | (obtain rfl : t = [] := List.length_eq_zero_iff.1 (by omega)
       refine ⟨?_, hqI_open.2 ⟨_, _, _, _, _, _, hr, hpOI_open.2 (Holds.to (by assumption))⟩⟩
       have e := hr.empty
       unfold pkN pkP pkO
       rw [e]; rfl)
    | (refine ⟨?_, hqI_open.2 ⟨_, _, _, _, _, _, hr, hpOI_open.2 (Holds.to (by assumption))⟩⟩
       have e := hr.first soI h0
       have e2 := hr.pg (gm t 0 h0)
       unfold pkN pkP pkO
       rw [e]
       simp only [e2]; rfl)
set_option maxHeartbeats 1000000 in
theorem putIH_ct {w : World} {h : Nat} {s : List (Option Int)} {x : Int} {p : Int} {L : List HProp} (H : Holds w (HqI h s :: L)) :
    CT Try.prog 69 [.pointer (some ⟨h, 0, none⟩), .int .i64 x, .int .i64 p] w fun u w' => u = .int .i64 (putC RI s x p) ∧ Holds w' (HqI h (putL RI s x p) :: L) := by
  obtain ⟨tv, pv, qv, t, pl, pr, hr, H⟩ := hqI_open.1 H
  have H := hpOI_open.1 H
  have ll := hr.pi.len
  have lp := hr.lp
  have htn := hr.pi.len_le
  have h64 := hr.n64
  refine CT.enter (N := 76) Try.func69 rfl rfl rfl rfl ?_
  refine W.seq (fun K0 hK0 => ?_)
  refine W.region ?_
  refine O.ex (Ex.assign rfl) rfl ?_
  refine O.nil ?_
  refine hK0 _ _ _ ?_
  refine W.seq (fun K1 hK1 => ?_)
  refine W.block ?_
  refine W.seq (fun K2 hK2 => ?_)
  refine W.region ?_
  refine O.ex (Ex.move rfl) rfl ?_
  refine O.ex (Ex.lss rfl rfl) rfl ?_
  refine O.ex (Ex.move rfl) rfl ?_
  first | refine O.split_p (t := 10) rfl (fun h10 => ?_) (fun h10 => ?_) | refine O.split (t := 10) rfl (fun h10 => ?_) (fun h10 => ?_)
  · refine O.guard_f rfl rfl rfl rfl ?_
    refine O.guard_f rfl rfl rfl rfl ?_
    refine O.guard_f rfl rfl rfl rfl ?_
    refine O.guard_f rfl rfl rfl rfl ?_
    refine O.guard_f rfl rfl rfl rfl ?_
    refine O.guard_f rfl rfl rfl rfl ?_
    refine O.guard_f rfl rfl rfl rfl ?_
    refine O.ex (Ex.pick_t rfl rfl) rfl ?_
    refine O.ex (Ex.assign rfl) rfl ?_
    refine O.nil ?_
    refine hK2 _ _ _ ?_
    refine W.cond_t rfl ?_
    refine W.seq (fun K3 hK3 => ?_)
    refine W.region ?_
    refine O.ex (Ex.assign rfl) rfl ?_
    refine O.nil ?_
    refine hK3 _ _ _ ?_
    refine W.ret ?_
    try dsimp only [thenQ, blockQ, retQ]
    first | refine ⟨_, ⟨_, _, rfl, rfl, rfl⟩, ?_⟩ | (refine retD_mark ?_; intro w H; refine ⟨_, ⟨_, _, rfl, rfl, rfl⟩, ?_⟩) | (refine retD_mark2 ?_; intro w H; refine ⟨_, ⟨_, _, rfl, rfl, rfl⟩, ?_⟩)
    first
    | (have hc : putC RI s x p = 1 := by unfold putC; rw [if_pos (by omega)]
       have hl : putL RI s x p = s := by unfold putL; rw [if_neg (by rw [hc]; decide)]
       rw [hc, hl]
       exact ⟨rfl, hqI_open.2 ⟨_, _, _, _, _, _, hr, hpOI_open.2 (Holds.to (by assumption))⟩⟩)
    | (have hkt : k ∈ t := e1.2 hold
       have hRp : ¬ RI p (pr.getD k default) := by first | exact Int.not_lt.2 hle | exact hle
       have hc : putC RI s k p = 5 := by unfold putC; rw [if_neg (by omega), Int.toNat_natCast, e0, if_pos hkt]; exact if_neg hRp
       have hl : putL RI s k p = s := by unfold putL; rw [if_neg (by rw [hc]; decide)]
       rw [hc, hl]
       exact ⟨rfl, hqI_open.2 ⟨_, _, _, _, _, _, hr, hpOI_open.2 (Holds.to (by assumption))⟩⟩)
    | (have hl : putL RI s k p = s.set k (some p) := by unfold putL; rw [if_pos hc2, Int.toNat_natCast]
       rw [hc2, hl]
       exact ⟨rfl, hqI_open.2 ⟨_, _, _, _, _, _, hr.put hk hp3 hh3 (fun y => (hm3 y).trans (hm2 y)), Holds.to (by assumption)⟩⟩)
  · refine O.guard_t rfl rfl ?_
    refine O.ex (Ex.move rfl) rfl ?_
    refine O.guard_t rfl rfl ?_
    refine O.ex (Ex.move rfl) rfl ?_
    refine O.guard_t rfl rfl ?_
    refine O.ex (by first | exact Ex.nilPtr rfl | exact Ex.nilFunc rfl | exact Ex.nilYield rfl) rfl ?_
    refine O.guard_t rfl rfl ?_
    refine O.ex (by first | exact Ex.field0 fld126_1 rfl | exact Ex.field fld126_1 rfl | exact Ex.fieldS fld126_1 rfl) rfl ?_
    refine O.guard_t rfl rfl ?_
    refine O.ex (by first | exact Ex.loadP Try.isAgg28 rfl | exact Ex.loadR Try.isAgg28 rfl | exact Ex.loadIn1 Try.isAgg28 rfl (Holds.to (by assumption))) rfl ?_
    refine O.guard_t rfl rfl ?_
    refine O.ex (by first | exact Ex.lenR Try.runUnderlying28 rfl | exact Ex.lenIn Try.runUnderlying28 rfl | exact Ex.lenL Try.runUnderlying28 rfl | exact Ex.len rfl Try.runUnderlying28 rfl) rfl ?_
    refine O.guard_t rfl rfl ?_
    refine O.ex (Ex.geq rfl rfl) rfl ?_
    refine O.ex (Ex.pick_f rfl rfl) rfl ?_
    refine O.ex (Ex.assign rfl) rfl ?_
    refine O.nil ?_
    refine hK2 _ _ _ ?_
    first | refine W.cond_p rfl (fun hge => ?_) (fun hlt => ?_) | refine W.cond_b rfl (fun hge => ?_) (fun hlt => ?_)
    · refine W.seq (fun K4 hK4 => ?_)
      refine W.region ?_
      refine O.ex (Ex.assign rfl) rfl ?_
      refine O.nil ?_
      refine hK4 _ _ _ ?_
      refine W.ret ?_
      try dsimp only [thenQ, blockQ, retQ]
      first | refine ⟨_, ⟨_, _, rfl, rfl, rfl⟩, ?_⟩ | (refine retD_mark ?_; intro w H; refine ⟨_, ⟨_, _, rfl, rfl, rfl⟩, ?_⟩) | (refine retD_mark2 ?_; intro w H; refine ⟨_, ⟨_, _, rfl, rfl, rfl⟩, ?_⟩)
      first
      | (have hc : putC RI s x p = 1 := by unfold putC; rw [if_pos (by omega)]
         have hl : putL RI s x p = s := by unfold putL; rw [if_neg (by rw [hc]; decide)]
         rw [hc, hl]
         exact ⟨rfl, hqI_open.2 ⟨_, _, _, _, _, _, hr, hpOI_open.2 (Holds.to (by assumption))⟩⟩)
      | (have hkt : k ∈ t := e1.2 hold
         have hRp : ¬ RI p (pr.getD k default) := by first | exact Int.not_lt.2 hle | exact hle
         have hc : putC RI s k p = 5 := by unfold putC; rw [if_neg (by omega), Int.toNat_natCast, e0, if_pos hkt]; exact if_neg hRp
         have hl : putL RI s k p = s := by unfold putL; rw [if_neg (by rw [hc]; decide)]
         rw [hc, hl]
         exact ⟨rfl, hqI_open.2 ⟨_, _, _, _, _, _, hr, hpOI_open.2 (Holds.to (by assumption))⟩⟩)
      | (have hl : putL RI s k p = s.set k (some p) := by unfold putL; rw [if_pos hc2, Int.toNat_natCast]
         rw [hc2, hl]
         exact ⟨rfl, hqI_open.2 ⟨_, _, _, _, _, _, hr.put hk hp3 hh3 (fun y => (hm3 y).trans (hm2 y)), Holds.to (by assumption)⟩⟩)
    · refine W.seq (fun K5 hK5 => ?_)
      refine W.region ?_
      obtain ⟨k, rfl⟩ : ∃ k : Nat, x = k := ⟨x.toNat, by omega⟩
      have hk : k < s.length := by omega
      have hk0 : (0 : Int) ≤ (k : Int) := by omega
      have e0 := hr.get k hk
      have e1 := hr.pi.mem_iff hk
      refine O.ex (Ex.move rfl) rfl ?_
      refine O.ex (by first | exact Ex.nilPtr rfl | exact Ex.nilFunc rfl | exact Ex.nilYield rfl) rfl ?_
      refine O.ex (by first | exact Ex.field0 fld126_1 rfl | exact Ex.field fld126_1 rfl | exact Ex.fieldS fld126_1 rfl) rfl ?_
      refine O.ex (by first | exact Ex.loadP Try.isAgg28 rfl | exact Ex.loadR Try.isAgg28 rfl | exact Ex.loadIn1 Try.isAgg28 rfl (Holds.to (by assumption))) rfl ?_
      refine O.ex (Ex.move rfl) rfl ?_
      refine O.ex (by first | exact Ex.idxR Try.runUnderlying28 Try.sizeOf3 rfl rfl | exact Ex.idxIn Try.runUnderlying28 Try.sizeOf3 rfl rfl | exact Ex.idxS Try.runUnderlying28 Try.sizeOf3 rfl rfl | exact Ex.idx Try.runUnderlying28 Try.sizeOf3 rfl rfl (by omega) (by omega)) rfl ?_
      refine O.ex (by first | exact Ex.loadP Try.isAgg3 rfl | exact Ex.loadR Try.isAgg3 rfl | exact Ex.loadIn1 Try.isAgg3 rfl (Holds.to (by assumption))) rfl ?_
      refine O.ex (Ex.lss rfl rfl) rfl ?_
      refine O.ex (Ex.assign rfl) rfl ?_
      refine O.nil ?_
      refine hK5 _ _ _ ?_
      first | refine W.cond_p rfl (fun hnew => ?_) (fun hold => ?_) | refine W.cond_b rfl (fun hnew => ?_) (fun hold => ?_)
      · refine W.seq (fun K6 hK6 => ?_)
        refine W.region ?_
        refine O.ex (Ex.move rfl) rfl ?_
        refine O.ex (Ex.move rfl) rfl ?_
        refine O.ex (by first | exact Ex.nilPtr rfl | exact Ex.nilFunc rfl | exact Ex.nilYield rfl) rfl ?_
        refine O.ex (by first | exact Ex.field0 fld126_0 rfl | exact Ex.field fld126_0 rfl | exact Ex.fieldS fld126_0 rfl) rfl ?_
        refine O.ex (by first | exact Ex.loadP Try.isAgg28 rfl | exact Ex.loadR Try.isAgg28 rfl | exact Ex.loadIn1 Try.isAgg28 rfl (Holds.to (by assumption))) rfl ?_
        refine O.ex (Ex.move rfl) rfl ?_
        refine O.build1 (e := eN) Try.runUnderlying28 Try.sizeOf3 Try.zeroValue3 rfl (fun v34 w hv34 H => ?_)
        refine O.appendR Try.runUnderlying28 Try.typeInfo3 (bt := 8) rfl Try.sizeOf3 Try.zeroValue3 rfl rfl (fun v35 w hv35 H => ?_)
        refine O.ex (by first | exact Ex.nilPtr rfl | exact Ex.nilFunc rfl | exact Ex.nilYield rfl) rfl ?_
        refine O.ex (by first | exact Ex.field0 fld126_0 rfl | exact Ex.field fld126_0 rfl | exact Ex.fieldS fld126_0 rfl) rfl ?_
        first | refine O.storeP Try.sizeOf28 rfl rfl (fun w H => ?_) | refine O.storeR Try.sizeOf28 rfl rfl (fun w H => ?_)
        refine O.nil ?_
        refine hK6 _ _ _ ?_
        have hlen : (t ++ [k]).length = t.length + 1 := by simp
        have s1 := arr_sl (e := eN) (v := v35) (xs := t ++ [k]) (Holds.to (by assumption)) (by omega)
        have s2 := arr_sl (e := Value.int .i64) (v := pv) (xs := pl) (Holds.to (by assumption)) (by omega)
        refine W.drawTo (pt h _ :: []) (.take 0 (.take 1 (.take 2 (.take 3 (.take 4 (.take 5 (.take 6 (.take 7 (.take 8 (.take 9 (.take 10 (.take 11 (.one 12 .nil))))))))))))) (mixed) (fun _ _ _ _ h => h) (by assumption) PP.auto (by decide +kernel) (fun w H => ?_)
        refine OQ.ex rfl (fun w H => (Ex.move rfl)) rfl ?_
        refine OQ.ex rfl (fun w H => (by first | exact Ex.nilPtr rfl | exact Ex.nilFunc rfl | exact Ex.nilYield rfl)) rfl ?_
        refine OQ.ex rfl (fun w H => (by first | exact Ex.field0 fld126_1 rfl | exact Ex.field fld126_1 rfl | exact Ex.fieldS fld126_1 rfl)) rfl ?_
        refine OQ.ex rfl (fun w H => (by first | exact Ex.loadP Try.isAgg28 rfl | exact Ex.loadR Try.isAgg28 rfl | exact Ex.loadIn1 Try.isAgg28 rfl (Holds.to (by assumption)))) rfl ?_
        refine OQ.ex rfl (fun w H => (Ex.move rfl)) rfl ?_
        refine OQ.ex rfl (fun w H => (Ex.move rfl)) rfl ?_
        refine OQ.ex rfl (fun w H => (by first | exact Ex.nilPtr rfl | exact Ex.nilFunc rfl | exact Ex.nilYield rfl)) rfl ?_
        refine OQ.ex rfl (fun w H => (by first | exact Ex.field0 fld126_0 rfl | exact Ex.field fld126_0 rfl | exact Ex.fieldS fld126_0 rfl)) rfl ?_
        refine OQ.ex rfl (fun w H => (by first | exact Ex.loadP Try.isAgg28 rfl | exact Ex.loadR Try.isAgg28 rfl | exact Ex.loadIn1 Try.isAgg28 rfl (Holds.to (by assumption)))) rfl ?_
        refine OQ.ex rfl (fun w H => (by first | exact Ex.lenR Try.runUnderlying28 rfl | exact Ex.lenIn Try.runUnderlying28 rfl | exact Ex.lenL Try.runUnderlying28 rfl | exact Ex.len rfl Try.runUnderlying28 rfl)) rfl ?_
        refine OQ.ex rfl (fun w H => (by first | exact Ex.subI rfl rfl | exact Ex.sub rfl rfl rfl)) rfl ?_
        refine OQ.ex rfl (fun w H => (by first | exact Ex.idxR Try.runUnderlying28 Try.sizeOf3 rfl rfl | exact Ex.idxIn Try.runUnderlying28 Try.sizeOf3 rfl rfl | exact Ex.idxS Try.runUnderlying28 Try.sizeOf3 rfl rfl | exact Ex.idx Try.runUnderlying28 Try.sizeOf3 rfl rfl (by omega) (by omega))) rfl ?_
        refine OQ.last rfl (by decide +kernel) ?_
        first | refine O.storeP Try.sizeOf3 rfl rfl (fun w H => ?_) | refine O.storeR Try.sizeOf3 rfl rfl (fun w H => ?_)
        refine O.nil ?_
        refine hK1 _ _ _ ?_
        refine W.seq (fun K7 hK7 => ?_)
        refine W.region ?_
        obtain ⟨t2, pl2, i, tv2, hp2, hat2, hi2, hu2, hm2, hc2, H⟩ : ∃ (t2 : List Nat) (pl2 : List Int) (i : Nat) (tv2 : Value), PI s.length t2 pl2 ∧ pl2.getD k default = (i : Int) ∧ i < t2.length ∧ UI (kI (pr.set k p)) t2 i ∧ (∀ y, y ∈ t2 ↔ y = k ∨ y ∈ t) ∧ putC RI s k p = 0 ∧ Holds w (pt h (.cells #[tv2, pv, qv] 126 (0, 0)) :: arr 3 eN tv2 t2 :: arr 3 (Value.int .i64) pv pl2 :: arr 3 (Value.int .i64) qv pr :: L) := by
          first
          | (have hkn : k ∉ t := fun q => e1.1 q hnew
             have hu := hr.upNew (p := p) hk hkn
             rw [show ((t ++ [k]).length : Int) - 1 = (t.length : Int) from by omega] at H
             refine ⟨t ++ [k], pl.set k (t.length : Int), t.length, _, hu.2, ?_, by omega, hu.1, fun y => ?_, ?_, Holds.to (by assumption)⟩
             · rw [Hp.gs _ _ _ _ (by omega), if_pos rfl]
             · simp only [List.mem_append, List.mem_singleton]; exact Or.comm
             · unfold putC; rw [if_neg (by omega), Int.toNat_natCast, e0, if_neg hkn])
          | (have hkt : k ∈ t := e1.2 hold
             obtain ⟨i, hi, ei⟩ := mg hkt
             have hRp : RI p (pr.getD k default) := by first | exact Int.not_le.1 hgt | exact Decidable.not_not.1 hgt
             refine ⟨t, pl, i, tv, hr.pi, ?_, hi, hr.up soI hi ei hRp, fun y => ⟨.inr, fun q => q.elim (fun e => e ▸ hkt) id⟩, ?_, Holds.to (by assumption)⟩
             · have := hr.pi.at_ i hi; rwa [ei] at this
             · unfold putC; rw [if_neg (by omega), Int.toNat_natCast, e0, if_pos hkt]; exact if_pos hRp)
        have lp2 := hp2.len
        refine O.ex (Ex.move rfl) rfl ?_
        refine O.ex (by first | exact Ex.nilPtr rfl | exact Ex.nilFunc rfl | exact Ex.nilYield rfl) rfl ?_
        refine O.ex (by first | exact Ex.field0 fld126_2 rfl | exact Ex.field fld126_2 rfl | exact Ex.fieldS fld126_2 rfl) rfl ?_
        refine O.ex (by first | exact Ex.loadP Try.isAgg28 rfl | exact Ex.loadR Try.isAgg28 rfl | exact Ex.loadIn1 Try.isAgg28 rfl (Holds.to (by assumption))) rfl ?_
        refine O.ex (Ex.move rfl) rfl ?_
        refine O.ex (Ex.move rfl) rfl ?_
        refine O.ex (by first | exact Ex.idxR Try.runUnderlying28 Try.sizeOf3 rfl rfl | exact Ex.idxIn Try.runUnderlying28 Try.sizeOf3 rfl rfl | exact Ex.idxS Try.runUnderlying28 Try.sizeOf3 rfl rfl | exact Ex.idx Try.runUnderlying28 Try.sizeOf3 rfl rfl (by omega) (by omega)) rfl ?_
        first | refine O.storeP Try.sizeOf3 rfl rfl (fun w H => ?_) | refine O.storeR Try.sizeOf3 rfl rfl (fun w H => ?_)
        refine O.nil ?_
        refine hK7 _ _ _ ?_
        refine W.seq (fun K8 hK8 => ?_)
        refine W.region ?_
        refine O.ex (Ex.move rfl) rfl ?_
        refine O.ex (Ex.move rfl) rfl ?_
        refine O.ex (by first | exact Ex.nilPtr rfl | exact Ex.nilFunc rfl | exact Ex.nilYield rfl) rfl ?_
        refine O.ex (by first | exact Ex.field0 fld126_1 rfl | exact Ex.field fld126_1 rfl | exact Ex.fieldS fld126_1 rfl) rfl ?_
        refine O.ex (by first | exact Ex.loadP Try.isAgg28 rfl | exact Ex.loadR Try.isAgg28 rfl | exact Ex.loadIn1 Try.isAgg28 rfl (Holds.to (by assumption))) rfl ?_
        refine O.ex (Ex.move rfl) rfl ?_
        refine O.ex (by first | exact Ex.idxR Try.runUnderlying28 Try.sizeOf3 rfl rfl | exact Ex.idxIn Try.runUnderlying28 Try.sizeOf3 rfl rfl | exact Ex.idxS Try.runUnderlying28 Try.sizeOf3 rfl rfl | exact Ex.idx Try.runUnderlying28 Try.sizeOf3 rfl rfl (by omega) (by omega)) rfl ?_
        refine O.ex (by first | exact Ex.loadP Try.isAgg3 rfl | exact Ex.loadR Try.isAgg3 rfl | exact Ex.loadIn1 Try.isAgg3 rfl (Holds.to (by assumption))) rfl ?_
        rw [show pl2.getD ((k : Nat) : Int).toNat default = (i : Int) from hat2]
        refine O.callF Try.call93 rfl rfl (CT.mono (upI_ct (n := s.length) (tv := tv2) (pv := pv) (qv := qv) (t := t2) (pl := pl2) (pr := pr.set k p) hp2 (by rw [List.length_set]; exact lp) h64 hi2 hu2 (hpOI_open.2 (Holds.to (by assumption)))) ?_)
        rintro _ w ⟨-, t3, pl3, hp3, hh3, hm3, H⟩
        refine O.nil ?_
        refine hK8 _ _ _ ?_
        refine W.seq (fun K9 hK9 => ?_)
        refine W.region ?_
        refine O.ex (Ex.assign rfl) rfl ?_
        refine O.nil ?_
        refine hK9 _ _ _ ?_
        refine W.ret ?_
        try dsimp only [thenQ, blockQ, retQ]
        first | refine ⟨_, ⟨_, _, rfl, rfl, rfl⟩, ?_⟩ | (refine retD_mark ?_; intro w H; refine ⟨_, ⟨_, _, rfl, rfl, rfl⟩, ?_⟩) | (refine retD_mark2 ?_; intro w H; refine ⟨_, ⟨_, _, rfl, rfl, rfl⟩, ?_⟩)
        first
        | (have hc : putC RI s x p = 1 := by unfold putC; rw [if_pos (by omega)]
           have hl : putL RI s x p = s := by unfold putL; rw [if_neg (by rw [hc]; decide)]
           rw [hc, hl]
           exact ⟨rfl, hqI_open.2 ⟨_, _, _, _, _, _, hr, hpOI_open.2 (Holds.to (by assumption))⟩⟩)
        | (have hkt : k ∈ t := e1.2 hold
           have hRp : ¬ RI p (pr.getD k default) := by first | exact Int.not_lt.2 hle | exact hle
           have hc : putC RI s k p = 5 := by unfold putC; rw [if_neg (by omega), Int.toNat_natCast, e0, if_pos hkt]; exact if_neg hRp
           have hl : putL RI s k p = s := by unfold putL; rw [if_neg (by rw [hc]; decide)]
           rw [hc, hl]
           exact ⟨rfl, hqI_open.2 ⟨_, _, _, _, _, _, hr, hpOI_open.2 (Holds.to (by assumption))⟩⟩)
        | (have hl : putL RI s k p = s.set k (some p) := by unfold putL; rw [if_pos hc2, Int.toNat_natCast]
           rw [hc2, hl]
           exact ⟨rfl, hqI_open.2 ⟨_, _, _, _, _, _, hr.put hk hp3 hh3 (fun y => (hm3 y).trans (hm2 y)), Holds.to (by assumption)⟩⟩)
      · refine W.seq (fun K10 hK10 => ?_)
        refine W.region ?_
        refine O.ex (Ex.move rfl) rfl ?_
        refine O.ex (by first | exact Ex.nilPtr rfl | exact Ex.nilFunc rfl | exact Ex.nilYield rfl) rfl ?_
        refine O.ex (by first | exact Ex.field0 fld126_2 rfl | exact Ex.field fld126_2 rfl | exact Ex.fieldS fld126_2 rfl) rfl ?_
        refine O.ex (by first | exact Ex.loadP Try.isAgg28 rfl | exact Ex.loadR Try.isAgg28 rfl | exact Ex.loadIn1 Try.isAgg28 rfl (Holds.to (by assumption))) rfl ?_
        refine O.ex (Ex.move rfl) rfl ?_
        refine O.ex (by first | exact Ex.idxR Try.runUnderlying28 Try.sizeOf3 rfl rfl | exact Ex.idxIn Try.runUnderlying28 Try.sizeOf3 rfl rfl | exact Ex.idxS Try.runUnderlying28 Try.sizeOf3 rfl rfl | exact Ex.idx Try.runUnderlying28 Try.sizeOf3 rfl rfl (by omega) (by omega)) rfl ?_
        refine O.ex (by first | exact Ex.loadP Try.isAgg3 rfl | exact Ex.loadR Try.isAgg3 rfl | exact Ex.loadIn1 Try.isAgg3 rfl (Holds.to (by assumption))) rfl ?_
        refine O.ex (Ex.move rfl) rfl ?_
        refine O.ex (Ex.leq rfl rfl) rfl ?_
        refine O.ex (Ex.assign rfl) rfl ?_
        refine O.nil ?_
        refine hK10 _ _ _ ?_
        first | refine W.cond_p rfl (fun hle => ?_) (fun hgt => ?_) | refine W.cond_b rfl (fun hle => ?_) (fun hgt => ?_)
        · refine W.seq (fun K11 hK11 => ?_)
          refine W.region ?_
          refine O.ex (Ex.assign rfl) rfl ?_
          refine O.nil ?_
          refine hK11 _ _ _ ?_
          refine W.ret ?_
          try dsimp only [thenQ, blockQ, retQ]
          first | refine ⟨_, ⟨_, _, rfl, rfl, rfl⟩, ?_⟩ | (refine retD_mark ?_; intro w H; refine ⟨_, ⟨_, _, rfl, rfl, rfl⟩, ?_⟩) | (refine retD_mark2 ?_; intro w H; refine ⟨_, ⟨_, _, rfl, rfl, rfl⟩, ?_⟩)
          first
          | (have hc : putC RI s x p = 1 := by unfold putC; rw [if_pos (by omega)]
             have hl : putL RI s x p = s := by unfold putL; rw [if_neg (by rw [hc]; decide)]
             rw [hc, hl]
             exact ⟨rfl, hqI_open.2 ⟨_, _, _, _, _, _, hr, hpOI_open.2 (Holds.to (by assumption))⟩⟩)
          | (have hkt : k ∈ t := e1.2 hold
             have hRp : ¬ RI p (pr.getD k default) := by first | exact Int.not_lt.2 hle | exact hle
             have hc : putC RI s k p = 5 := by unfold putC; rw [if_neg (by omega), Int.toNat_natCast, e0, if_pos hkt]; exact if_neg hRp
             have hl : putL RI s k p = s := by unfold putL; rw [if_neg (by rw [hc]; decide)]
             rw [hc, hl]
             exact ⟨rfl, hqI_open.2 ⟨_, _, _, _, _, _, hr, hpOI_open.2 (Holds.to (by assumption))⟩⟩)
          | (have hl : putL RI s k p = s.set k (some p) := by unfold putL; rw [if_pos hc2, Int.toNat_natCast]
             rw [hc2, hl]
             exact ⟨rfl, hqI_open.2 ⟨_, _, _, _, _, _, hr.put hk hp3 hh3 (fun y => (hm3 y).trans (hm2 y)), Holds.to (by assumption)⟩⟩)
        · refine W.skip ?_
          refine hK1 _ _ _ ?_
          refine W.seq (fun K12 hK12 => ?_)
          refine W.region ?_
          obtain ⟨t2, pl2, i, tv2, hp2, hat2, hi2, hu2, hm2, hc2, H⟩ : ∃ (t2 : List Nat) (pl2 : List Int) (i : Nat) (tv2 : Value), PI s.length t2 pl2 ∧ pl2.getD k default = (i : Int) ∧ i < t2.length ∧ UI (kI (pr.set k p)) t2 i ∧ (∀ y, y ∈ t2 ↔ y = k ∨ y ∈ t) ∧ putC RI s k p = 0 ∧ Holds w (pt h (.cells #[tv2, pv, qv] 126 (0, 0)) :: arr 3 eN tv2 t2 :: arr 3 (Value.int .i64) pv pl2 :: arr 3 (Value.int .i64) qv pr :: L) := by
            first
            | (have hkn : k ∉ t := fun q => e1.1 q hnew
               have hu := hr.upNew (p := p) hk hkn
               rw [show ((t ++ [k]).length : Int) - 1 = (t.length : Int) from by omega] at H
               refine ⟨t ++ [k], pl.set k (t.length : Int), t.length, _, hu.2, ?_, by omega, hu.1, fun y => ?_, ?_, Holds.to (by assumption)⟩
               · rw [Hp.gs _ _ _ _ (by omega), if_pos rfl]
               · simp only [List.mem_append, List.mem_singleton]; exact Or.comm
               · unfold putC; rw [if_neg (by omega), Int.toNat_natCast, e0, if_neg hkn])
            | (have hkt : k ∈ t := e1.2 hold
               obtain ⟨i, hi, ei⟩ := mg hkt
               have hRp : RI p (pr.getD k default) := by first | exact Int.not_le.1 hgt | exact Decidable.not_not.1 hgt
               refine ⟨t, pl, i, tv, hr.pi, ?_, hi, hr.up soI hi ei hRp, fun y => ⟨.inr, fun q => q.elim (fun e => e ▸ hkt) id⟩, ?_, Holds.to (by assumption)⟩
               · have := hr.pi.at_ i hi; rwa [ei] at this
               · unfold putC; rw [if_neg (by omega), Int.toNat_natCast, e0, if_pos hkt]; exact if_pos hRp)
          have lp2 := hp2.len
          refine O.ex (Ex.move rfl) rfl ?_
          refine O.ex (by first | exact Ex.nilPtr rfl | exact Ex.nilFunc rfl | exact Ex.nilYield rfl) rfl ?_
          refine O.ex (by first | exact Ex.field0 fld126_2 rfl | exact Ex.field fld126_2 rfl | exact Ex.fieldS fld126_2 rfl) rfl ?_
          refine O.ex (by first | exact Ex.loadP Try.isAgg28 rfl | exact Ex.loadR Try.isAgg28 rfl | exact Ex.loadIn1 Try.isAgg28 rfl (Holds.to (by assumption))) rfl ?_
          refine O.ex (Ex.move rfl) rfl ?_
          refine O.ex (Ex.move rfl) rfl ?_
          refine O.ex (by first | exact Ex.idxR Try.runUnderlying28 Try.sizeOf3 rfl rfl | exact Ex.idxIn Try.runUnderlying28 Try.sizeOf3 rfl rfl | exact Ex.idxS Try.runUnderlying28 Try.sizeOf3 rfl rfl | exact Ex.idx Try.runUnderlying28 Try.sizeOf3 rfl rfl (by omega) (by omega)) rfl ?_
          first | refine O.storeP Try.sizeOf3 rfl rfl (fun w H => ?_) | refine O.storeR Try.sizeOf3 rfl rfl (fun w H => ?_)
          refine O.nil ?_
          refine hK12 _ _ _ ?_
          refine W.seq (fun K13 hK13 => ?_)
          refine W.region ?_
          refine O.ex (Ex.move rfl) rfl ?_
          refine O.ex (Ex.move rfl) rfl ?_
          refine O.ex (by first | exact Ex.nilPtr rfl | exact Ex.nilFunc rfl | exact Ex.nilYield rfl) rfl ?_
          refine O.ex (by first | exact Ex.field0 fld126_1 rfl | exact Ex.field fld126_1 rfl | exact Ex.fieldS fld126_1 rfl) rfl ?_
          refine O.ex (by first | exact Ex.loadP Try.isAgg28 rfl | exact Ex.loadR Try.isAgg28 rfl | exact Ex.loadIn1 Try.isAgg28 rfl (Holds.to (by assumption))) rfl ?_
          refine O.ex (Ex.move rfl) rfl ?_
          refine O.ex (by first | exact Ex.idxR Try.runUnderlying28 Try.sizeOf3 rfl rfl | exact Ex.idxIn Try.runUnderlying28 Try.sizeOf3 rfl rfl | exact Ex.idxS Try.runUnderlying28 Try.sizeOf3 rfl rfl | exact Ex.idx Try.runUnderlying28 Try.sizeOf3 rfl rfl (by omega) (by omega)) rfl ?_
          refine O.ex (by first | exact Ex.loadP Try.isAgg3 rfl | exact Ex.loadR Try.isAgg3 rfl | exact Ex.loadIn1 Try.isAgg3 rfl (Holds.to (by assumption))) rfl ?_
          rw [show pl2.getD ((k : Nat) : Int).toNat default = (i : Int) from hat2]
          refine O.callF Try.call93 rfl rfl (CT.mono (upI_ct (n := s.length) (tv := tv2) (pv := pv) (qv := qv) (t := t2) (pl := pl2) (pr := pr.set k p) hp2 (by rw [List.length_set]; exact lp) h64 hi2 hu2 (hpOI_open.2 (Holds.to (by assumption)))) ?_)
          rintro _ w ⟨-, t3, pl3, hp3, hh3, hm3, H⟩
          refine O.nil ?_
          refine hK13 _ _ _ ?_
          refine W.seq (fun K14 hK14 => ?_)
          refine W.region ?_
          refine O.ex (Ex.assign rfl) rfl ?_
          refine O.nil ?_
          refine hK14 _ _ _ ?_
          refine W.ret ?_
          try dsimp only [thenQ, blockQ, retQ]
          first | refine ⟨_, ⟨_, _, rfl, rfl, rfl⟩, ?_⟩ | (refine retD_mark ?_; intro w H; refine ⟨_, ⟨_, _, rfl, rfl, rfl⟩, ?_⟩) | (refine retD_mark2 ?_; intro w H; refine ⟨_, ⟨_, _, rfl, rfl, rfl⟩, ?_⟩)
          first
          | (have hc : putC RI s x p = 1 := by unfold putC; rw [if_pos (by omega)]
             have hl : putL RI s x p = s := by unfold putL; rw [if_neg (by rw [hc]; decide)]
             rw [hc, hl]
             exact ⟨rfl, hqI_open.2 ⟨_, _, _, _, _, _, hr, hpOI_open.2 (Holds.to (by assumption))⟩⟩)
          | (have hkt : k ∈ t := e1.2 hold
             have hRp : ¬ RI p (pr.getD k default) := by first | exact Int.not_lt.2 hle | exact hle
             have hc : putC RI s k p = 5 := by unfold putC; rw [if_neg (by omega), Int.toNat_natCast, e0, if_pos hkt]; exact if_neg hRp
             have hl : putL RI s k p = s := by unfold putL; rw [if_neg (by rw [hc]; decide)]
             rw [hc, hl]
             exact ⟨rfl, hqI_open.2 ⟨_, _, _, _, _, _, hr, hpOI_open.2 (Holds.to (by assumption))⟩⟩)
          | (have hl : putL RI s k p = s.set k (some p) := by unfold putL; rw [if_pos hc2, Int.toNat_natCast]
             rw [hc2, hl]
             exact ⟨rfl, hqI_open.2 ⟨_, _, _, _, _, _, hr.put hk hp3 hh3 (fun y => (hm3 y).trans (hm2 y)), Holds.to (by assumption)⟩⟩)
end Go.Proofs.Ytliofdfhimmjmaa
