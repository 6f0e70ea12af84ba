import Derived.Test.YtikdblejkmaloaaDoorBitsSplit
namespace Go.Proofs.YtikdblejkmaloaaDoor
open Go.Rr Go
set_option linter.unusedVariables false
theorem bitsGoes_ct {w0 : World} {m q : Int} (hT : TabAt w0) (hm : (Lit.int .u64 m).wf = true) (hq : (Lit.int .u8 q).wf = true) :
    CT Tryd.prog 4 [.int .u64 m, .int .u8 q] w0 fun u w' => u = .bool true ∧ RowKit.Below w0.heap.size w0 w' := by
  have H := Holds.base_refl w0
  obtain ⟨s, rfl, hs⟩ := u64_nat hm
  obtain ⟨q0, q1⟩ := bounds_u8 hq
  have hle := lst_le s
  have hll := lstI_len s
  refine CT.enter (N := 50) Tryd.func4 rfl rfl rfl rfl ?_
  refine W.seq (fun K0 hK0 => ?_)
  refine W.region ?_
  refine O.boxP rfl (fun b3 w H => ?_)
  refine O.allocP Tryd.zeroValue4 (fun b4 w H => ?_)
  refine O.nil ?_
  refine hK0 _ _ _ ?_
  refine W.seq (fun K1 hK1 => ?_)
  refine W.seq (fun K2 hK2 => ?_)
  refine W.region ?_
  refine O.callF Tryd.call8 rfl rfl (CT.mono (awake03_ct hT (Holds.to (by assumption))) ?_)
  rintro _ w ⟨rfl, H⟩
  refine O.ex (by first | exact Ex.notD rfl | exact Ex.not rfl) rfl ?_
  refine O.nil ?_
  refine hK2 _ _ _ ?_
  refine W.known_f rfl (by first | rfl | decide | (refine decide_eq_false ?_; omega) | (refine decide_eq_false (fun hh => hh ?_); rw [Int.toNat_natCast, ← lstI_get s j hj]) | (refine decide_eq_true ?_; omega)) ?_
  refine W.skip ?_
  refine hK1 _ _ _ ?_
  refine W.seq (fun K3 hK3 => ?_)
  refine W.region ?_
  refine O.ex (Ex.move rfl) rfl ?_
  refine O.callF Tryd.call12 rfl rfl (CT.mono (refList_ct (Holds.to (by assumption)) hs) ?_)
  rintro _ w ⟨hva, H⟩
  rename_i v11
  refine O.allocP Tryd.zeroValue30 (fun b5 w H => ?_)
  first | refine O.storeP Tryd.sizeOf30 rfl rfl (fun w H => ?_) | refine O.storeR Tryd.sizeOf30 rfl rfl (fun w H => ?_)
  refine O.nil ?_
  refine hK3 _ _ _ ?_
  refine W.seq (fun K4 hK4 => ?_)
  refine W.region ?_
  refine O.allocP Tryd.zeroValue3 (fun b6 w H => ?_)
  first | refine O.storeP Tryd.sizeOf3 rfl rfl (fun w H => ?_) | refine O.storeR Tryd.sizeOf3 rfl rfl (fun w H => ?_)
  refine O.nil ?_
  refine hK4 _ _ _ ?_
  refine W.seq (fun K5 hK5 => ?_)
  refine W.seq (fun K6 hK6 => ?_)
  refine W.region ?_
  refine O.ex (Ex.move rfl) rfl ?_
  refine O.callF Tryd.call13 rfl rfl (CT.mono (all_ct (Holds.to (by assumption))) ?_)
  rintro _ w ⟨c, rfl, H⟩
  refine O.nil ?_
  refine hK6 _ _ _ ?_
  refine W.block ?_
  refine W.rangeFunc rfl Tryd.call25 H ?_
  rintro LR kk D w hLR H
  refine CT.mono (all1_ct (c := c) (s := s) (w0 := w0) (J := fun j => [LR .ready none, dblk D, pt b6 (.cells #[.int .i64 (j : Int)] 3 (0, 0)), pt b5 (.cells #[v11] 30 (0, 0)), arr 3 (Value.int .i64) v11 (lstI s), pt b3 (.cells #[.int .u8 q] 5 (0, 0)), pt b4 (.cells #[.bool false] 4 (0, 0))]) (φ := fun j => j = 0 ∨ (j : Int) < q)
    (S := fun w' => ∃ kk : Int, (kk = max q 1 ∧ kk ≤ (lst s).length) ∧ Holds w' [base w0, capB c s, LR .done (some (.exit 0)), dblk D, pt b6 (.cells #[.int .i64 kk] 3 (0, 0)), pt b5 (.cells #[v11] 30 (0, 0)), arr 3 (Value.int .i64) v11 (lstI s), pt b3 (.cells #[.int .u8 q] 5 (0, 0)), pt b4 (.cells #[.bool false] 4 (0, 0))]) hT hs (.inl rfl) (Holds.to (by assumption)) ?_) ?_
  · intro j w hj hφ H
    refine VT.round hLR (Holds.to (by assumption)) rfl rfl ?_
    refine W.region ?_
    refine O.ex (Ex.assign rfl) rfl ?_
    refine O.nil ?_
    refine ⟨_, Holds.to (by assumption), fun w H => ?_⟩
    refine W.block ?_
    refine W.seq (fun K7 hK7 => ?_)
    refine W.seq (fun K8 hK8 => ?_)
    refine W.region ?_
    refine O.ex (by first | exact Ex.loadP Tryd.isAgg3 rfl | exact Ex.loadR Tryd.isAgg3 rfl | exact Ex.loadIn1 Tryd.isAgg3 rfl (Holds.to (by assumption))) rfl ?_
    refine O.ex (by first | exact Ex.loadP Tryd.isAgg30 rfl | exact Ex.loadR Tryd.isAgg30 rfl | exact Ex.loadIn1 Tryd.isAgg30 rfl (Holds.to (by assumption))) rfl ?_
    refine O.ex (by first | exact Ex.lenR Tryd.runUnderlying30 rfl | exact Ex.lenIn Tryd.runUnderlying30 rfl | exact Ex.lenL Tryd.runUnderlying30 rfl | exact Ex.len rfl Tryd.runUnderlying30 rfl) rfl ?_
    refine O.ex (Ex.geq rfl rfl) rfl ?_
    refine O.ex (Ex.move rfl) rfl ?_
    refine O.known (t := 19) (c := false) rfl (by first | rfl | decide | (refine decide_eq_false ?_; omega) | (refine decide_eq_false (fun hh => hh ?_); rw [Int.toNat_natCast, ← lstI_get s j hj]) | (refine decide_eq_true ?_; omega)) ?_
    refine O.guard_t rfl rfl ?_
    refine O.ex (by first | exact Ex.loadP Tryd.isAgg30 rfl | exact Ex.loadR Tryd.isAgg30 rfl | exact Ex.loadIn1 Tryd.isAgg30 rfl (Holds.to (by assumption))) rfl ?_
    refine O.guard_t rfl rfl ?_
    refine O.ex (by first | exact Ex.loadP Tryd.isAgg3 rfl | exact Ex.loadR Tryd.isAgg3 rfl | exact Ex.loadIn1 Tryd.isAgg3 rfl (Holds.to (by assumption))) rfl ?_
    refine O.guard_t rfl rfl ?_
    refine O.ex (by first | exact Ex.idxR Tryd.runUnderlying30 Tryd.sizeOf3 rfl rfl | exact Ex.idxIn Tryd.runUnderlying30 Tryd.sizeOf3 rfl rfl | exact Ex.idxS Tryd.runUnderlying30 Tryd.sizeOf3 rfl rfl | exact Ex.idx Tryd.runUnderlying30 Tryd.sizeOf3 rfl rfl (by omega) (by omega)) rfl ?_
    refine O.guard_t rfl rfl ?_
    refine O.ex (by first | exact Ex.loadP Tryd.isAgg3 rfl | exact Ex.loadR Tryd.isAgg3 rfl | exact Ex.loadIn1 Tryd.isAgg3 rfl (Holds.to (by assumption))) rfl ?_
    refine O.guard_t rfl rfl ?_
    refine O.ex (Ex.move rfl) rfl ?_
    refine O.guard_t rfl rfl ?_
    refine O.ex (Ex.neqI rfl rfl) rfl ?_
    refine O.ex (Ex.pick_f rfl rfl) rfl ?_
    refine O.nil ?_
    refine hK8 _ _ _ ?_
    refine W.known_f rfl (by first | rfl | decide | (refine decide_eq_false ?_; omega) | (refine decide_eq_false (fun hh => hh ?_); rw [Int.toNat_natCast, ← lstI_get s j hj]) | (refine decide_eq_true ?_; omega)) ?_
    refine W.skip ?_
    refine hK7 _ _ _ ?_
    refine W.seq (fun K9 hK9 => ?_)
    refine W.region ?_
    refine O.ex (by first | exact Ex.loadP Tryd.isAgg3 rfl | exact Ex.loadR Tryd.isAgg3 rfl | exact Ex.loadIn1 Tryd.isAgg3 rfl (Holds.to (by assumption))) rfl ?_
    refine O.ex (by first | exact Ex.addI rfl rfl | exact Ex.add rfl rfl rfl) rfl ?_
    first | refine O.storeP Tryd.sizeOf3 rfl rfl (fun w H => ?_) | refine O.storeR Tryd.sizeOf3 rfl rfl (fun w H => ?_)
    refine O.nil ?_
    refine hK9 _ _ _ ?_
    refine W.seq (fun K10 hK10 => ?_)
    refine W.region ?_
    refine O.ex (by first | exact Ex.loadP Tryd.isAgg3 rfl | exact Ex.loadR Tryd.isAgg3 rfl | exact Ex.loadIn1 Tryd.isAgg3 rfl (Holds.to (by assumption))) rfl ?_
    refine O.ex (by first | exact Ex.loadP Tryd.isAgg5 rfl | exact Ex.loadR Tryd.isAgg5 rfl | exact Ex.loadIn1 Tryd.isAgg5 rfl (Holds.to (by assumption))) rfl ?_
    refine O.ex (by first | exact Ex.convToI Tryd.runUnderlying5 Tryd.runUnderlying3 rfl | exact Ex.convW Tryd.runUnderlying5 Tryd.runUnderlying3 rfl) rfl ?_
    refine O.ex (Ex.geq rfl rfl) rfl ?_
    refine O.nil ?_
    refine hK10 _ _ _ ?_
    first | refine W.cond_p rfl (fun h32 => ?_) (fun h32 => ?_) | refine W.cond_b rfl (fun h32 => ?_) (fun h32 => ?_)
    · refine W.exit ?_
      exact ⟨_, Holds.to (by assumption), fun w H => .inr ⟨rfl, (j : Int) + 1, ⟨by omega, by omega⟩, Holds.to (by assumption)⟩⟩
    · refine W.skip ?_
      exact ⟨_, Holds.to (by assumption), fun w H => .inl ⟨rfl, .inr (by omega), Holds.to (by assumption)⟩⟩
  rintro _ w (⟨hφ, H⟩ | ⟨kk, ⟨hk1, hk2⟩, H⟩)
  all_goals refine rangeEnd (Holds.to (by assumption)) (by nofun) (fun w H => ?_)
  · skip
    refine hK5 _ _ _ ?_
    refine W.seq (fun K11 hK11 => ?_)
    refine W.region ?_
    refine O.ex (by first | exact Ex.loadP Tryd.isAgg3 rfl | exact Ex.loadR Tryd.isAgg3 rfl | exact Ex.loadIn1 Tryd.isAgg3 rfl (Holds.to (by assumption))) rfl ?_
    refine O.ex (by first | exact Ex.loadP Tryd.isAgg30 rfl | exact Ex.loadR Tryd.isAgg30 rfl | exact Ex.loadIn1 Tryd.isAgg30 rfl (Holds.to (by assumption))) rfl ?_
    refine O.ex (by first | exact Ex.lenR Tryd.runUnderlying30 rfl | exact Ex.lenIn Tryd.runUnderlying30 rfl | exact Ex.lenL Tryd.runUnderlying30 rfl | exact Ex.len rfl Tryd.runUnderlying30 rfl) rfl ?_
    refine O.ex (by first | exact Ex.loadP Tryd.isAgg5 rfl | exact Ex.loadR Tryd.isAgg5 rfl | exact Ex.loadIn1 Tryd.isAgg5 rfl (Holds.to (by assumption))) rfl ?_
    refine O.ex (by first | exact Ex.convToI Tryd.runUnderlying5 Tryd.runUnderlying3 rfl | exact Ex.convW Tryd.runUnderlying5 Tryd.runUnderlying3 rfl) rfl ?_
    refine O.ex (Ex.maxI rfl rfl) rfl ?_
    refine O.ex (Ex.minI rfl rfl) rfl ?_
    refine O.ex (Ex.eqlI rfl rfl) rfl ?_
    refine O.ex (Ex.move rfl) rfl ?_
    refine O.known (t := 41) (c := true) rfl (by first | rfl | decide | (refine decide_eq_false ?_; omega) | (refine decide_eq_false (fun hh => hh ?_); rw [Int.toNat_natCast, ← lstI_get s j hj]) | (refine decide_eq_true ?_; omega)) ?_
    refine O.guard_f rfl rfl rfl rfl ?_
    refine O.guard_f rfl rfl rfl rfl ?_
    refine O.guard_f rfl rfl rfl rfl ?_
    refine O.guard_f rfl rfl rfl rfl ?_
    refine O.guard_u rfl rfl rfl ?_
    refine O.guard_u rfl rfl rfl ?_
    refine O.guard_f rfl rfl rfl rfl ?_
    refine O.ex (Ex.pick_t rfl rfl) rfl ?_
    first | refine O.storeP Tryd.sizeOf4 rfl rfl (fun w H => ?_) | refine O.storeR Tryd.sizeOf4 rfl rfl (fun w H => ?_)
    refine O.nil ?_
    refine hK11 _ _ _ ?_
    refine W.ret ?_
    try dsimp only [thenQ, blockQ, retQ]
    first | refine ⟨_, ⟨_, _, _, rfl, rfl, loadVar_one Tryd.isAgg4, rfl⟩, ?_⟩ | (refine retD_mark ?_; intro w H; refine ⟨_, ⟨_, _, _, rfl, rfl, loadVar_one Tryd.isAgg4, rfl⟩, ?_⟩) | (refine retD_mark2 ?_; intro w H; refine ⟨_, ⟨_, _, _, rfl, rfl, loadVar_one Tryd.isAgg4, rfl⟩, ?_⟩)
    exact ⟨rfl, Holds.base_below (L := []) (Holds.to (by assumption))⟩
  · skip
    refine W.exit ?_
    refine hK5 _ _ _ ?_
    refine W.seq (fun K12 hK12 => ?_)
    refine W.region ?_
    refine O.ex (by first | exact Ex.loadP Tryd.isAgg3 rfl | exact Ex.loadR Tryd.isAgg3 rfl | exact Ex.loadIn1 Tryd.isAgg3 rfl (Holds.to (by assumption))) rfl ?_
    refine O.ex (by first | exact Ex.loadP Tryd.isAgg30 rfl | exact Ex.loadR Tryd.isAgg30 rfl | exact Ex.loadIn1 Tryd.isAgg30 rfl (Holds.to (by assumption))) rfl ?_
    refine O.ex (by first | exact Ex.lenR Tryd.runUnderlying30 rfl | exact Ex.lenIn Tryd.runUnderlying30 rfl | exact Ex.lenL Tryd.runUnderlying30 rfl | exact Ex.len rfl Tryd.runUnderlying30 rfl) rfl ?_
    refine O.ex (by first | exact Ex.loadP Tryd.isAgg5 rfl | exact Ex.loadR Tryd.isAgg5 rfl | exact Ex.loadIn1 Tryd.isAgg5 rfl (Holds.to (by assumption))) rfl ?_
    refine O.ex (by first | exact Ex.convToI Tryd.runUnderlying5 Tryd.runUnderlying3 rfl | exact Ex.convW Tryd.runUnderlying5 Tryd.runUnderlying3 rfl) rfl ?_
    refine O.ex (Ex.maxI rfl rfl) rfl ?_
    refine O.ex (Ex.minI rfl rfl) rfl ?_
    refine O.ex (Ex.eqlI rfl rfl) rfl ?_
    refine O.ex (Ex.move rfl) rfl ?_
    refine O.known (t := 41) (c := true) rfl (by first | rfl | decide | (refine decide_eq_false ?_; omega) | (refine decide_eq_false (fun hh => hh ?_); rw [Int.toNat_natCast, ← lstI_get s j hj]) | (refine decide_eq_true ?_; omega)) ?_
    refine O.guard_f rfl rfl rfl rfl ?_
    refine O.guard_f rfl rfl rfl rfl ?_
    refine O.guard_f rfl rfl rfl rfl ?_
    refine O.guard_f rfl rfl rfl rfl ?_
    refine O.guard_u rfl rfl rfl ?_
    refine O.guard_u rfl rfl rfl ?_
    refine O.guard_f rfl rfl rfl rfl ?_
    refine O.ex (Ex.pick_t rfl rfl) rfl ?_
    first | refine O.storeP Tryd.sizeOf4 rfl rfl (fun w H => ?_) | refine O.storeR Tryd.sizeOf4 rfl rfl (fun w H => ?_)
    refine O.nil ?_
    refine hK12 _ _ _ ?_
    refine W.ret ?_
    try dsimp only [thenQ, blockQ, retQ]
    first | refine ⟨_, ⟨_, _, _, rfl, rfl, loadVar_one Tryd.isAgg4, rfl⟩, ?_⟩ | (refine retD_mark ?_; intro w H; refine ⟨_, ⟨_, _, _, rfl, rfl, loadVar_one Tryd.isAgg4, rfl⟩, ?_⟩) | (refine retD_mark2 ?_; intro w H; refine ⟨_, ⟨_, _, _, rfl, rfl, loadVar_one Tryd.isAgg4, rfl⟩, ?_⟩)
    exact ⟨rfl, Holds.base_below (L := []) (Holds.to (by assumption))⟩
end Go.Proofs.YtikdblejkmaloaaDoor
