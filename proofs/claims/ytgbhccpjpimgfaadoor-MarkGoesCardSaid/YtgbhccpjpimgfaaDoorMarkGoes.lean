import Derived.Test.YtgbhccpjpimgfaaDoorMark2
import Derived.Test.YtgbhccpjpimgfaaDoorMarkLaw2
namespace Go.Proofs.YtgbhccpjpimgfaaDoor
open Go.Rr Go Mq
set_option linter.unusedVariables false
set_option maxHeartbeats 2000000 in
theorem markGoes_ct {w0 : World} {rv pv : Value} {rk ps : List Int} {m : Int} (hT : TabAt w0) (hx : SlIn w0 1 (fun s : Int => [.int .i64 s]) rv rk) (hlr : rk.length ≤ 9223372036854775807) (hx2 : SlIn w0 1 (fun s : Int => [.int .i64 s]) pv ps) (hlp : ps.length ≤ 9223372036854775807) (hm : (Lit.int .u8 m).wf = true) :
    CT Tryd.prog 3 [rv, pv, .int .u8 m] w0 fun u w' => u = .bool true ∧ RowKit.Below w0.heap.size w0 w' := by
  have H := Holds.base_refl w0
  obtain ⟨m0, m1⟩ := bounds_u8 hm
  refine CT.enter (N := 129) Tryd.func3 rfl rfl rfl rfl ?_
  refine W.seq (fun K0 hK0 => ?_)
  refine W.region ?_
  refine O.boxP rfl (fun b5 w H => ?_)
  refine O.allocP Tryd.zeroValue4 (fun b6 w H => ?_)
  refine O.nil ?_
  refine hK0 _ _ _ ?_
  refine W.seq (fun K1 hK1 => ?_)
  refine W.seq (fun K2 hK2 => ?_)
  refine W.region ?_
  refine O.callF Tryd.call7 rfl rfl (CT.mono (awake18_ct hT (Holds.to (by assumption))) ?_)
  rintro _ w ⟨rfl, H⟩
  refine O.ex (by first | exact Ex.notD rfl | exact Ex.not rfl) rfl ?_
  refine O.nil ?_
  refine hK2 _ _ _ ?_
  refine W.known_f rfl (by first | rfl | exact decide_eq_false (fun h => h rfl) | exact decide_eq_false (fun h => h hfin) | exact decide_eq_false (fun h => h hfr) | exact decide_eq_false (fun h => h h0) | exact decide_eq_true hpz | exact decide_eq_false (by omega)) ?_
  refine W.skip ?_
  refine hK1 _ _ _ ?_
  refine W.seq (fun K3 hK3 => ?_)
  refine W.seq (fun K4 hK4 => ?_)
  refine W.region ?_
  refine O.ex (Ex.move rfl) rfl ?_
  refine O.ex (by first | exact Ex.lenR Tryd.runUnderlying22 rfl | exact Ex.lenIn Tryd.runUnderlying22 rfl | exact Ex.lenL Tryd.runUnderlying22 rfl | exact Ex.len rfl Tryd.runUnderlying22 rfl) rfl ?_
  refine O.ex (Ex.gtr rfl rfl) rfl ?_
  refine O.ex (Ex.move rfl) rfl ?_
  first | refine O.split_p (t := 22) rfl (fun hbig => ?_) (fun hle => ?_) | refine O.split (t := 22) rfl (fun hbig => ?_) (fun hle => ?_)
  · refine O.guard_f rfl rfl rfl rfl ?_
    refine O.guard_f rfl rfl rfl rfl ?_
    refine O.guard_f rfl rfl rfl rfl ?_
    refine O.ex (Ex.pick_t rfl rfl) rfl ?_
    refine O.nil ?_
    refine hK4 _ _ _ ?_
    refine W.cond_t rfl ?_
    refine W.seq (fun K5 hK5 => ?_)
    refine W.region ?_
    first | refine O.storeP Tryd.sizeOf4 rfl rfl (fun w H => ?_) | refine O.storeR Tryd.sizeOf4 rfl rfl (fun w H => ?_)
    refine O.nil ?_
    refine hK5 _ _ _ ?_
    refine W.ret ?_
    try dsimp only [thenQ, blockQ, retQ]
    first | refine ⟨_, ⟨_, _, _, rfl, rfl, loadVar_one Tryd.isAgg4, rfl⟩, ?_⟩ | (refine retD_mark ?_; intro w H; refine ⟨_, ⟨_, _, _, rfl, rfl, loadVar_one Tryd.isAgg4, rfl⟩, ?_⟩) | (refine retD_mark2 ?_; intro w H; refine ⟨_, ⟨_, _, _, rfl, rfl, loadVar_one Tryd.isAgg4, rfl⟩, ?_⟩)
    exact ⟨by first | rfl | exact congrArg Value.bool (decide_eq_true hfz), Holds.base_below (L := []) (Holds.to (by assumption))⟩
  · refine O.guard_t rfl rfl ?_
    refine O.ex (Ex.move rfl) rfl ?_
    refine O.guard_t rfl rfl ?_
    refine O.callF Tryd.call8 rfl rfl (CT.mono (may_ct hx (Holds.to (by assumption)) hlr) ?_)
    rintro _ w ⟨rfl, H⟩
    refine O.guard_t rfl rfl ?_
    refine O.ex (by first | exact Ex.notD rfl | exact Ex.not rfl) rfl ?_
    refine O.ex (Ex.pick_f rfl rfl) rfl ?_
    refine O.nil ?_
    refine hK4 _ _ _ ?_
    first | refine W.cond_p rfl (fun hno => ?_) (fun hyes => ?_) | refine W.cond_b rfl (fun hno => ?_) (fun hyes => ?_)
    · refine W.seq (fun K6 hK6 => ?_)
      refine W.region ?_
      first | refine O.storeP Tryd.sizeOf4 rfl rfl (fun w H => ?_) | refine O.storeR Tryd.sizeOf4 rfl rfl (fun w H => ?_)
      refine O.nil ?_
      refine hK6 _ _ _ ?_
      refine W.ret ?_
      try dsimp only [thenQ, blockQ, retQ]
      first | refine ⟨_, ⟨_, _, _, rfl, rfl, loadVar_one Tryd.isAgg4, rfl⟩, ?_⟩ | (refine retD_mark ?_; intro w H; refine ⟨_, ⟨_, _, _, rfl, rfl, loadVar_one Tryd.isAgg4, rfl⟩, ?_⟩) | (refine retD_mark2 ?_; intro w H; refine ⟨_, ⟨_, _, _, rfl, rfl, loadVar_one Tryd.isAgg4, rfl⟩, ?_⟩)
      exact ⟨by first | rfl | exact congrArg Value.bool (decide_eq_true hfz), Holds.base_below (L := []) (Holds.to (by assumption))⟩
    · refine W.skip ?_
      refine hK3 _ _ _ ?_
      refine W.seq (fun K7 hK7 => ?_)
      refine W.region ?_
      refine O.ex (Ex.move rfl) rfl ?_
      refine O.callF Tryd.call9 rfl rfl (CT.mono (mnewI_ct hx (Holds.to (by assumption)) hlr) ?_)
      rintro _ w (⟨hr, q, rfl, H⟩ | ⟨hn, -⟩)
      rotate_left
      · exact absurd (Decidable.not_not.1 hyes) hn
      obtain ⟨hr, hpos⟩ := hr
      have h24 := hr.1
      refine O.ex (Ex.move rfl) rfl ?_
      refine O.ex (Ex.extract rfl rfl) rfl ?_
      refine O.ex (Ex.extract rfl rfl) rfl ?_
      refine O.ex (Ex.assign rfl) rfl ?_
      refine O.ex (Ex.assign rfl) rfl ?_
      refine O.nil ?_
      refine hK7 _ _ _ ?_
      refine W.seq (fun K8 hK8 => ?_)
      refine W.seq (fun K9 hK9 => ?_)
      refine W.region ?_
      refine O.ex (Ex.move rfl) rfl ?_
      refine O.ex (Ex.nilEq Tryd.runUnderlying25 rfl rfl) rfl ?_
      refine O.nil ?_
      refine hK9 _ _ _ ?_
      refine W.known_f rfl (by first | rfl | exact decide_eq_false (fun h => h rfl) | exact decide_eq_false (fun h => h hfin) | exact decide_eq_false (fun h => h hfr) | exact decide_eq_false (fun h => h h0) | exact decide_eq_true hpz | exact decide_eq_false (by omega)) ?_
      refine W.skip ?_
      refine hK8 _ _ _ ?_
      refine W.seq (fun K10 hK10 => ?_)
      refine W.region ?_
      refine O.ex (Ex.move rfl) rfl ?_
      refine O.callF Tryd.call10 rfl rfl (CT.mono (rqNew_ct h24 hx (Holds.to (by assumption))) ?_)
      rintro _ w ⟨r, rfl, H⟩
      refine O.ex (Ex.assign rfl) rfl ?_
      refine O.nil ?_
      refine hK10 _ _ _ ?_
      refine W.seq (fun K11 hK11 => ?_)
      refine W.seq (fun K12 hK12 => ?_)
      refine W.region ?_
      refine O.ex (Ex.assign rfl) rfl ?_
      refine O.nil ?_
      refine hK12 _ _ _ ?_
      refine W.block ?_
      refine W.loop (σ := Nat × Nat) (fun z => [(0, rv), (1, pv), (5, .pointer (some ⟨b5, 0, none⟩)), (6, .pointer (some ⟨b6, 0, none⟩)), (7, .pointer (some ⟨q, 0, none⟩)), (9, .pointer (some ⟨r, 0, none⟩)), (10, .int .i64 (z.1 : Int))]) (fun z ds w => ds = [] ∧ SOk rk.length z.2 ∧ Holds w [base w0, Mk q rk z.2, Rq r rk z.2, pt b5 (.cells #[.int .u8 m] 5 (0, 0)), pt b6 (.cells #[.bool false] 4 (0, 0))]) (fun z => ps.length - z.1) (0, 0) ⟨rfl, rfl, rfl, rfl, rfl, rfl, rfl, trivial⟩ ⟨rfl, SOk.zero _, Holds.to (by assumption)⟩ ?_
      clear H
      rintro ⟨i, s⟩ _ w ⟨rfl, hok, H⟩
      dsimp only at hok H ⊢
      refine W.seq (fun K13 hK13 => ?_)
      refine W.seq (fun K14 hK14 => ?_)
      refine W.region ?_
      refine O.ex (Ex.move rfl) rfl ?_
      refine O.ex (Ex.move rfl) rfl ?_
      refine O.ex (by first | exact Ex.lenR Tryd.runUnderlying22 rfl | exact Ex.lenIn Tryd.runUnderlying22 rfl | exact Ex.lenL Tryd.runUnderlying22 rfl | exact Ex.len rfl Tryd.runUnderlying22 rfl) rfl ?_
      refine O.ex (Ex.lss rfl rfl) rfl ?_
      refine O.ex (Ex.move rfl) rfl ?_
      first | refine O.split_p (t := 40) rfl (fun hlt => ?_) (fun hge => ?_) | refine O.split (t := 40) rfl (fun hlt => ?_) (fun hge => ?_)
      · refine O.guard_t rfl rfl ?_
        refine O.ex (Ex.move rfl) rfl ?_
        refine O.guard_t rfl rfl ?_
        refine O.ex (Ex.lss rfl rfl) rfl ?_
        refine O.ex (Ex.pick_t rfl rfl) rfl ?_
        refine O.nil ?_
        refine hK14 _ _ _ ?_
        first | refine W.cond_p rfl (fun h100 => ?_) (fun h100' => ?_) | refine W.cond_b rfl (fun h100 => ?_) (fun h100' => ?_)
        · refine W.skip ?_
          refine hK13 _ _ _ ?_
          refine W.seq (fun K15 hK15 => ?_)
          refine W.block ?_
          refine W.seq (fun K16 hK16 => ?_)
          refine W.region ?_
          have hi0 : (0 : Int) ≤ (i : Int) := by omega
          refine O.ex (Ex.move rfl) rfl ?_
          refine O.ex (Ex.move rfl) rfl ?_
          refine O.ex (Ex.move rfl) rfl ?_
          refine O.ex (by first | exact Ex.idxR Tryd.runUnderlying22 Tryd.sizeOf3 rfl rfl | exact Ex.idxIn Tryd.runUnderlying22 Tryd.sizeOf3 rfl rfl | exact Ex.idxS Tryd.runUnderlying22 Tryd.sizeOf3 rfl rfl | exact Ex.idx Tryd.runUnderlying22 Tryd.sizeOf3 rfl rfl (by omega) (by omega)) rfl ?_
          refine O.ex (by first | exact Ex.loadP Tryd.isAgg3 rfl | exact Ex.loadR Tryd.isAgg3 rfl | exact Ex.loadIn1 Tryd.isAgg3 rfl (Holds.to (by assumption))) rfl ?_
          refine O.callF Tryd.call11 rfl rfl (CT.mono (qPut_ct (rk := rk) (s := s) hr hok.1 (Holds.to (by assumption))) ?_)
          rintro _ w ⟨-, H⟩
          refine O.nil ?_
          refine hK16 _ _ _ ?_
          refine W.region ?_
          refine O.ex (Ex.move rfl) rfl ?_
          refine O.ex (Ex.move rfl) rfl ?_
          refine O.ex (Ex.move rfl) rfl ?_
          refine O.ex (by first | exact Ex.idxR Tryd.runUnderlying22 Tryd.sizeOf3 rfl rfl | exact Ex.idxIn Tryd.runUnderlying22 Tryd.sizeOf3 rfl rfl | exact Ex.idxS Tryd.runUnderlying22 Tryd.sizeOf3 rfl rfl | exact Ex.idx Tryd.runUnderlying22 Tryd.sizeOf3 rfl rfl (by omega) (by omega)) rfl ?_
          refine O.ex (by first | exact Ex.loadP Tryd.isAgg3 rfl | exact Ex.loadR Tryd.isAgg3 rfl | exact Ex.loadIn1 Tryd.isAgg3 rfl (Holds.to (by assumption))) rfl ?_
          refine O.callF Tryd.call12 rfl rfl (CT.mono (rqPut_ct (rk := rk) (s := s) hr hok.1 (Holds.to (by assumption))) ?_)
          rintro _ w ⟨-, H⟩
          refine O.nil ?_
          refine hK15 _ _ _ ?_
          refine W.region ?_
          refine O.ex (Ex.move rfl) rfl ?_
          refine O.ex (by first | exact Ex.addI rfl rfl | exact Ex.add rfl rfl rfl) rfl ?_
          refine O.ex (Ex.assign rfl) rfl ?_
          refine O.nil ?_
          exact ⟨(i + 1, pset rk s (ps.getD i default)), ⟨rfl, rfl, rfl, rfl, rfl, rfl, rfl, trivial⟩, ⟨rfl, pset_ok hr hok _, Holds.to (by assumption)⟩, by dsimp only; omega⟩
        · refine W.exit ?_
          refine hK11 _ _ _ ?_
          refine W.seq (fun K17 hK17 => ?_)
          refine W.region ?_
          have hal : (alL rk s).length = (lst s).length := alL_len rk s
          have hl64 := lst_le s
          refine O.ex (Ex.move rfl) rfl ?_
          refine O.callF Tryd.call13 rfl rfl (CT.mono (rqAll_ct (rk := rk) (s := s) hr hok (Holds.to (by assumption))) ?_)
          rintro _ w ⟨hva, H⟩
          rename_i va
          refine O.allocP Tryd.zeroValue22 (fun b11 w H => ?_)
          first | refine O.storeP Tryd.sizeOf22 rfl rfl (fun w H => ?_) | refine O.storeR Tryd.sizeOf22 rfl rfl (fun w H => ?_)
          refine O.nil ?_
          refine hK17 _ _ _ ?_
          refine W.seq (fun K18 hK18 => ?_)
          refine W.region ?_
          refine O.allocP Tryd.zeroValue3 (fun b12 w H => ?_)
          first | refine O.storeP Tryd.sizeOf3 rfl rfl (fun w H => ?_) | refine O.storeR Tryd.sizeOf3 rfl rfl (fun w H => ?_)
          refine O.nil ?_
          refine hK18 _ _ _ ?_
          refine W.seq (fun K19 hK19 => ?_)
          refine W.seq (fun K20 hK20 => ?_)
          refine W.region ?_
          refine O.ex (Ex.move rfl) rfl ?_
          refine O.callF Tryd.call14 rfl rfl (CT.mono (qAll_ct (q := q) (Holds.to (by assumption))) ?_)
          rintro _ w ⟨c, rfl, H⟩
          refine O.nil ?_
          refine hK20 _ _ _ ?_
          refine W.block ?_
          obtain ⟨rv1, bv1, H⟩ := mk_open.1 (Holds.to (M := Mk q rk s :: capQ c q :: base w0 :: pt b12 (.cells #[.int .i64 0] 3 (0, 0)) :: pt b11 (.cells #[va] 22 (0, 0)) :: arr 3 (Value.int .i64) va (alL rk s) :: pt b5 (.cells #[.int .u8 m] 5 (0, 0)) :: pt b6 (.cells #[.bool false] 4 (0, 0)) :: []) (by assumption))
          refine W.rangeFunc rfl Tryd.call33 H ?_
          rintro LR kk D w hLR H
          refine CT.mono (qAll1_ct (c := c) (q := q) (rv := rv1) (bv := bv1) (rk := rk) (s := s) (w0 := w0) (κ := Int) (σ := fun kk => kk = max m 1 ∧ kk ≤ (lst s).length) (SL := fun kk => [LR .done (some (.exit 2)), dblk D, base w0, MkO q rv1 bv1 rk s, pt b12 (.cells #[.int .i64 kk] 3 (0, 0)), pt b11 (.cells #[va] 22 (0, 0)), arr 3 (Value.int .i64) va (alL rk s), pt b5 (.cells #[.int .u8 m] 5 (0, 0)), pt b6 (.cells #[.bool false] 4 (0, 0))])
            (J := fun j => [LR .ready none, dblk D, pt b12 (.cells #[.int .i64 (j : Int)] 3 (0, 0)), pt b11 (.cells #[va] 22 (0, 0)), arr 3 (Value.int .i64) va (alL rk s), pt b5 (.cells #[.int .u8 m] 5 (0, 0)), pt b6 (.cells #[.bool false] 4 (0, 0))]) (φ := fun j => j = 0 ∨ (j : Int) < m) rfl hT hr hok (.inl rfl) (Holds.to (by assumption)) ?_) ?_
          · intro F j w hj hφ H
            have hj2 : j < (alL rk s).length := by omega
            refine VT.round hLR (Holds.to (by assumption)) rfl rfl ?_
            refine W.region ?_
            refine O.ex (Ex.assign rfl) rfl ?_
            refine O.nil ?_
            refine ⟨_, Holds.to (by assumption), fun w H => ?_⟩
            refine W.block ?_
            refine W.seq (fun K21 hK21 => ?_)
            refine W.seq (fun K22 hK22 => ?_)
            refine W.region ?_
            refine O.ex (by first | exact Ex.loadP Tryd.isAgg3 rfl | exact Ex.loadR Tryd.isAgg3 rfl | exact Ex.loadIn1 Tryd.isAgg3 rfl (Holds.to (by assumption))) rfl ?_
            refine O.ex (by first | exact Ex.loadP Tryd.isAgg22 rfl | exact Ex.loadR Tryd.isAgg22 rfl | exact Ex.loadIn1 Tryd.isAgg22 rfl (Holds.to (by assumption))) rfl ?_
            refine O.ex (by first | exact Ex.lenR Tryd.runUnderlying22 rfl | exact Ex.lenIn Tryd.runUnderlying22 rfl | exact Ex.lenL Tryd.runUnderlying22 rfl | exact Ex.len rfl Tryd.runUnderlying22 rfl) rfl ?_
            refine O.ex (Ex.geq rfl rfl) rfl ?_
            refine O.ex (Ex.move rfl) rfl ?_
            refine O.known (t := 67) (c := false) rfl (by first | rfl | exact decide_eq_false (fun h => h rfl) | exact decide_eq_false (fun h => h hfin) | exact decide_eq_false (fun h => h hfr) | exact decide_eq_false (fun h => h h0) | exact decide_eq_true hpz | exact decide_eq_false (by omega)) ?_
            refine O.guard_t rfl rfl ?_
            refine O.ex (by first | exact Ex.loadP Tryd.isAgg22 rfl | exact Ex.loadR Tryd.isAgg22 rfl | exact Ex.loadIn1 Tryd.isAgg22 rfl (Holds.to (by assumption))) rfl ?_
            refine O.guard_t rfl rfl ?_
            refine O.ex (by first | exact Ex.loadP Tryd.isAgg3 rfl | exact Ex.loadR Tryd.isAgg3 rfl | exact Ex.loadIn1 Tryd.isAgg3 rfl (Holds.to (by assumption))) rfl ?_
            refine O.guard_t rfl rfl ?_
            refine O.ex (by first | exact Ex.idxR Tryd.runUnderlying22 Tryd.sizeOf3 rfl rfl | exact Ex.idxIn Tryd.runUnderlying22 Tryd.sizeOf3 rfl rfl | exact Ex.idxS Tryd.runUnderlying22 Tryd.sizeOf3 rfl rfl | exact Ex.idx Tryd.runUnderlying22 Tryd.sizeOf3 rfl rfl (by omega) (by omega)) rfl ?_
            refine O.guard_t rfl rfl ?_
            refine O.ex (by first | exact Ex.loadP Tryd.isAgg3 rfl | exact Ex.loadR Tryd.isAgg3 rfl | exact Ex.loadIn1 Tryd.isAgg3 rfl (Holds.to (by assumption))) rfl ?_
            refine O.guard_t rfl rfl ?_
            refine O.ex (Ex.move rfl) rfl ?_
            refine O.guard_t rfl rfl ?_
            refine O.ex (Ex.neqI rfl rfl) rfl ?_
            refine O.ex (Ex.pick_f rfl rfl) rfl ?_
            refine O.nil ?_
            refine hK22 _ _ _ ?_
            refine W.known_f rfl (by first | rfl | exact decide_eq_false (fun h => h rfl) | exact decide_eq_false (fun h => h hfin) | exact decide_eq_false (fun h => h hfr) | exact decide_eq_false (fun h => h h0) | exact decide_eq_true hpz | exact decide_eq_false (by omega)) ?_
            refine W.skip ?_
            refine hK21 _ _ _ ?_
            refine W.seq (fun K23 hK23 => ?_)
            refine W.region ?_
            refine O.ex (by first | exact Ex.loadP Tryd.isAgg3 rfl | exact Ex.loadR Tryd.isAgg3 rfl | exact Ex.loadIn1 Tryd.isAgg3 rfl (Holds.to (by assumption))) rfl ?_
            refine O.ex (by first | exact Ex.addI rfl rfl | exact Ex.add rfl rfl rfl) rfl ?_
            first | refine O.storeP Tryd.sizeOf3 rfl rfl (fun w H => ?_) | refine O.storeR Tryd.sizeOf3 rfl rfl (fun w H => ?_)
            refine O.nil ?_
            refine hK23 _ _ _ ?_
            refine W.seq (fun K24 hK24 => ?_)
            refine W.region ?_
            refine O.ex (by first | exact Ex.loadP Tryd.isAgg3 rfl | exact Ex.loadR Tryd.isAgg3 rfl | exact Ex.loadIn1 Tryd.isAgg3 rfl (Holds.to (by assumption))) rfl ?_
            refine O.ex (by first | exact Ex.loadP Tryd.isAgg5 rfl | exact Ex.loadR Tryd.isAgg5 rfl | exact Ex.loadIn1 Tryd.isAgg5 rfl (Holds.to (by assumption))) rfl ?_
            refine O.ex (by first | exact Ex.convToI Tryd.runUnderlying5 Tryd.runUnderlying3 rfl | exact Ex.convW Tryd.runUnderlying5 Tryd.runUnderlying3 rfl) rfl ?_
            refine O.ex (Ex.geq rfl rfl) rfl ?_
            refine O.nil ?_
            refine hK24 _ _ _ ?_
            first | refine W.cond_p rfl (fun h80 => ?_) (fun h80 => ?_) | refine W.cond_b rfl (fun h80 => ?_) (fun h80 => ?_)
            · refine W.exit ?_
              exact ⟨_, Holds.to (by assumption), fun w H => .inr ⟨rfl, (j : Int) + 1, ⟨by omega, by omega⟩, Holds.to (by assumption)⟩⟩
            · refine W.skip ?_
              exact ⟨_, Holds.to (by assumption), fun w H => .inl ⟨rfl, .inr (by omega), Holds.to (by assumption)⟩⟩
          rintro _ w (⟨hφ, H⟩ | ⟨kk, ⟨hk1, hk2⟩, H⟩)
          all_goals refine rangeEnd (Holds.to (by assumption)) (by nofun) (fun w H => ?_)
          · skip
            refine hK19 _ _ _ ?_
            refine W.seq (fun K25 hK25 => ?_)
            refine W.seq (fun K26 hK26 => ?_)
            refine W.region ?_
            first
            | have hfin : kk = min ((alL rk s).length : Int) (max m 1) := by omega
            | have hfin : (((lst s).length : Nat) : Int) = min ((alL rk s).length : Int) (max m 1) := by omega
            refine O.ex (by first | exact Ex.loadP Tryd.isAgg3 rfl | exact Ex.loadR Tryd.isAgg3 rfl | exact Ex.loadIn1 Tryd.isAgg3 rfl (Holds.to (by assumption))) rfl ?_
            refine O.ex (by first | exact Ex.loadP Tryd.isAgg22 rfl | exact Ex.loadR Tryd.isAgg22 rfl | exact Ex.loadIn1 Tryd.isAgg22 rfl (Holds.to (by assumption))) rfl ?_
            refine O.ex (by first | exact Ex.lenR Tryd.runUnderlying22 rfl | exact Ex.lenIn Tryd.runUnderlying22 rfl | exact Ex.lenL Tryd.runUnderlying22 rfl | exact Ex.len rfl Tryd.runUnderlying22 rfl) rfl ?_
            refine O.ex (by first | exact Ex.loadP Tryd.isAgg5 rfl | exact Ex.loadR Tryd.isAgg5 rfl | exact Ex.loadIn1 Tryd.isAgg5 rfl (Holds.to (by assumption))) rfl ?_
            refine O.ex (by first | exact Ex.convToI Tryd.runUnderlying5 Tryd.runUnderlying3 rfl | exact Ex.convW Tryd.runUnderlying5 Tryd.runUnderlying3 rfl) rfl ?_
            refine O.ex (Ex.maxI rfl rfl) rfl ?_
            refine O.ex (Ex.minI rfl rfl) rfl ?_
            refine O.ex (Ex.neqI rfl rfl) rfl ?_
            refine O.ex (Ex.move rfl) rfl ?_
            refine O.known (t := 89) (c := false) rfl (by first | rfl | exact decide_eq_false (fun h => h rfl) | exact decide_eq_false (fun h => h hfin) | exact decide_eq_false (fun h => h hfr) | exact decide_eq_false (fun h => h h0) | exact decide_eq_true hpz | exact decide_eq_false (by omega)) ?_
            refine O.guard_f rfl rfl rfl rfl ?_
            refine O.guard_f rfl rfl rfl rfl ?_
            refine O.guard_f rfl rfl rfl rfl ?_
            refine O.guard_f rfl rfl rfl rfl ?_
            refine O.guard_u rfl rfl rfl ?_
            refine O.guard_u rfl rfl rfl ?_
            refine O.guard_f rfl rfl rfl rfl ?_
            refine O.ex (Ex.pick_f rfl rfl) rfl ?_
            refine O.nil ?_
            refine hK26 _ _ _ ?_
            refine W.cond_f rfl ?_
            refine W.skip ?_
            refine hK25 _ _ _ ?_
            refine W.seq (fun K27 hK27 => ?_)
            refine W.seq (fun K28 hK28 => ?_)
            refine W.region ?_
            refine O.ex (Ex.assign rfl) rfl ?_
            refine O.nil ?_
            refine hK28 _ _ _ ?_
            refine W.block ?_
            have H := mk_open.2 ⟨rv1, bv1, (Holds.to (M := MkO q rv1 bv1 rk s :: dblk D :: base w0 :: pt b11 (.cells #[va] 22 (0, 0)) :: arr 3 (Value.int .i64) va (alL rk s) :: pt b6 (.cells #[.bool false] 4 (0, 0)) :: []) (by assumption))⟩
            refine W.loop (σ := Nat × Nat) (fun z => [(0, rv), (6, .pointer (some ⟨b6, 0, none⟩)), (7, .pointer (some ⟨q, 0, none⟩)), (11, .pointer (some ⟨b11, 0, none⟩)), (14, .int .i64 (z.1 : Int))]) (fun z ds w => ds = [⟨.collected D, #[]⟩] ∧ z.1 ≤ (lst s).length ∧ SOk rk.length z.2 ∧ lst z.2 = (lst s).drop z.1 ∧ Holds w [dblk D, Mk q rk z.2, base w0, pt b11 (.cells #[va] 22 (0, 0)), arr 3 (Value.int .i64) va (alL rk s), pt b6 (.cells #[.bool false] 4 (0, 0))]) (fun z => (lst s).length - z.1) (0, s) ⟨rfl, rfl, rfl, rfl, rfl, trivial⟩ ⟨rfl, by dsimp only; omega, hok, rfl, Holds.to (by assumption)⟩ ?_
            clear H
            rintro ⟨i, t⟩ _ w ⟨rfl, hi, hok2, hlt2, H⟩
            dsimp only at hi hok2 hlt2 H ⊢
            refine W.seq (fun K29 hK29 => ?_)
            refine W.seq (fun K30 hK30 => ?_)
            refine W.region ?_
            refine O.ex (Ex.move rfl) rfl ?_
            refine O.ex (by first | exact Ex.loadP Tryd.isAgg22 rfl | exact Ex.loadR Tryd.isAgg22 rfl | exact Ex.loadIn1 Tryd.isAgg22 rfl (Holds.to (by assumption))) rfl ?_
            refine O.ex (by first | exact Ex.lenR Tryd.runUnderlying22 rfl | exact Ex.lenIn Tryd.runUnderlying22 rfl | exact Ex.lenL Tryd.runUnderlying22 rfl | exact Ex.len rfl Tryd.runUnderlying22 rfl) rfl ?_
            refine O.ex (Ex.lss rfl rfl) rfl ?_
            refine O.nil ?_
            refine hK30 _ _ _ ?_
            first | refine W.cond_p rfl (fun hin => ?_) (fun hout => ?_) | refine W.cond_b rfl (fun hin => ?_) (fun hout => ?_)
            · refine W.skip ?_
              refine hK29 _ _ _ ?_
              refine W.seq (fun K31 hK31 => ?_)
              refine W.block ?_
              refine W.seq (fun K32 hK32 => ?_)
              refine W.region ?_
              have hil : i < (lst s).length := by omega
              obtain ⟨h0, hfr, hnx⟩ := drop_take hr hok2 hlt2 hil
              have hi0 : (0 : Int) ≤ (i : Int) := by omega
              have hi3 : i < (alL rk s).length := by omega
              refine O.ex (Ex.move rfl) rfl ?_
              refine O.callF Tryd.call15 rfl rfl (CT.mono (qTake_ct (rk := rk) (s := t) hT hr hok2 (Holds.to (by assumption))) ?_)
              rintro _ w ⟨rfl, H⟩
              refine O.ex (Ex.move rfl) rfl ?_
              refine O.ex (Ex.extract rfl rfl) rfl ?_
              refine O.ex (Ex.extract rfl rfl) rfl ?_
              refine O.ex (Ex.assign rfl) rfl ?_
              refine O.ex (Ex.assign rfl) rfl ?_
              refine O.nil ?_
              refine hK32 _ _ _ ?_
              refine W.seq (fun K33 hK33 => ?_)
              refine W.region ?_
              refine O.ex (Ex.move rfl) rfl ?_
              refine O.ex (by first | exact Ex.loadP Tryd.isAgg22 rfl | exact Ex.loadR Tryd.isAgg22 rfl | exact Ex.loadIn1 Tryd.isAgg22 rfl (Holds.to (by assumption))) rfl ?_
              refine O.ex (Ex.move rfl) rfl ?_
              refine O.ex (by first | exact Ex.idxR Tryd.runUnderlying22 Tryd.sizeOf3 rfl rfl | exact Ex.idxIn Tryd.runUnderlying22 Tryd.sizeOf3 rfl rfl | exact Ex.idxS Tryd.runUnderlying22 Tryd.sizeOf3 rfl rfl | exact Ex.idx Tryd.runUnderlying22 Tryd.sizeOf3 rfl rfl (by omega) (by omega)) rfl ?_
              refine O.ex (by first | exact Ex.loadP Tryd.isAgg3 rfl | exact Ex.loadR Tryd.isAgg3 rfl | exact Ex.loadIn1 Tryd.isAgg3 rfl (Holds.to (by assumption))) rfl ?_
              refine O.ex (Ex.neqI rfl rfl) rfl ?_
              refine O.ex (Ex.move rfl) rfl ?_
              refine O.known (t := 115) (c := false) rfl (by first | rfl | exact decide_eq_false (fun h => h rfl) | exact decide_eq_false (fun h => h hfin) | exact decide_eq_false (fun h => h hfr) | exact decide_eq_false (fun h => h h0) | exact decide_eq_true hpz | exact decide_eq_false (by omega)) ?_
              refine O.guard_t rfl rfl ?_
              refine O.ex (Ex.move rfl) rfl ?_
              refine O.guard_t rfl rfl ?_
              refine O.ex (by first | exact Ex.notD rfl | exact Ex.not rfl) rfl ?_
              refine O.ex (Ex.pick_f rfl rfl) rfl ?_
              refine O.nil ?_
              refine hK33 _ _ _ ?_
              refine W.known_f rfl (by first | rfl | exact decide_eq_false (fun h => h rfl) | exact decide_eq_false (fun h => h hfin) | exact decide_eq_false (fun h => h hfr) | exact decide_eq_false (fun h => h h0) | exact decide_eq_true hpz | exact decide_eq_false (by omega)) ?_
              refine W.skip ?_
              refine hK31 _ _ _ ?_
              refine W.region ?_
              refine O.ex (Ex.move rfl) rfl ?_
              refine O.ex (by first | exact Ex.addI rfl rfl | exact Ex.add rfl rfl rfl) rfl ?_
              refine O.ex (Ex.assign rfl) rfl ?_
              refine O.nil ?_
              exact ⟨(i + 1, tks rk t), ⟨rfl, rfl, rfl, rfl, rfl, trivial⟩, ⟨rfl, by dsimp only; omega, tks_ok hok2, hnx, Holds.to (by assumption)⟩, by dsimp only; omega⟩
            · refine W.exit ?_
              refine hK27 _ _ _ ?_
              refine W.seq (fun K34 hK34 => ?_)
              refine W.region ?_
              have hdr : (lst s).drop i = [] := List.drop_eq_nil_of_le (by omega)
              rw [hdr] at hlt2
              have ht0 : t = 0 := (lst_nil hok2.1).1 hlt2
              have hpz : ((pop t : Nat) : Int) = 0 := by rw [pop_len, hlt2]; rfl
              have hfz : flr rk t = (rk.length : Int) := by unfold flr; rw [if_pos ht0]
              refine O.ex (Ex.move rfl) rfl ?_
              refine O.callF Tryd.call16 rfl rfl (CT.mono (qLen_ct (rk := rk) (s := t) hok2.1 (Holds.to (by assumption))) ?_)
              rintro _ w ⟨rfl, H⟩
              refine O.ex (Ex.eqlI rfl rfl) rfl ?_
              refine O.ex (Ex.move rfl) rfl ?_
              refine O.known (t := 122) (c := true) rfl (by first | rfl | exact decide_eq_false (fun h => h rfl) | exact decide_eq_false (fun h => h hfin) | exact decide_eq_false (fun h => h hfr) | exact decide_eq_false (fun h => h h0) | exact decide_eq_true hpz | exact decide_eq_false (by omega)) ?_
              refine O.guard_t rfl rfl ?_
              refine O.ex (Ex.move rfl) rfl ?_
              refine O.guard_t rfl rfl ?_
              refine O.callF Tryd.call17 rfl rfl (CT.mono (qFloor_ct (rk := rk) (s := t) hT hok2.1 (Holds.to (by assumption))) ?_)
              rintro _ w ⟨rfl, H⟩
              refine O.guard_t rfl rfl ?_
              refine O.ex (Ex.move rfl) rfl ?_
              refine O.guard_t rfl rfl ?_
              refine O.ex (by first | exact Ex.lenR Tryd.runUnderlying22 rfl | exact Ex.lenIn Tryd.runUnderlying22 rfl | exact Ex.lenL Tryd.runUnderlying22 rfl | exact Ex.len rfl Tryd.runUnderlying22 rfl) rfl ?_
              refine O.guard_t rfl rfl ?_
              refine O.ex (Ex.eqlI rfl rfl) rfl ?_
              refine O.ex (Ex.pick_t rfl rfl) rfl ?_
              first | refine O.storeP Tryd.sizeOf4 rfl rfl (fun w H => ?_) | refine O.storeR Tryd.sizeOf4 rfl rfl (fun w H => ?_)
              refine O.nil ?_
              refine hK34 _ _ _ ?_
              refine W.ret ?_
              try dsimp only [thenQ, blockQ, retQ]
              first | refine ⟨_, ⟨_, _, _, rfl, rfl, loadVar_one Tryd.isAgg4, rfl⟩, ?_⟩ | (refine retD_mark ?_; intro w H; refine ⟨_, ⟨_, _, _, rfl, rfl, loadVar_one Tryd.isAgg4, rfl⟩, ?_⟩) | (refine retD_mark2 ?_; intro w H; refine ⟨_, ⟨_, _, _, rfl, rfl, loadVar_one Tryd.isAgg4, rfl⟩, ?_⟩)
              exact ⟨by first | rfl | exact congrArg Value.bool (decide_eq_true hfz), Holds.base_below (L := []) (Holds.to (by assumption))⟩
          · skip
            refine W.exit ?_
            refine hK19 _ _ _ ?_
            refine W.seq (fun K35 hK35 => ?_)
            refine W.seq (fun K36 hK36 => ?_)
            refine W.region ?_
            first
            | have hfin : kk = min ((alL rk s).length : Int) (max m 1) := by omega
            | have hfin : (((lst s).length : Nat) : Int) = min ((alL rk s).length : Int) (max m 1) := by omega
            refine O.ex (by first | exact Ex.loadP Tryd.isAgg3 rfl | exact Ex.loadR Tryd.isAgg3 rfl | exact Ex.loadIn1 Tryd.isAgg3 rfl (Holds.to (by assumption))) rfl ?_
            refine O.ex (by first | exact Ex.loadP Tryd.isAgg22 rfl | exact Ex.loadR Tryd.isAgg22 rfl | exact Ex.loadIn1 Tryd.isAgg22 rfl (Holds.to (by assumption))) rfl ?_
            refine O.ex (by first | exact Ex.lenR Tryd.runUnderlying22 rfl | exact Ex.lenIn Tryd.runUnderlying22 rfl | exact Ex.lenL Tryd.runUnderlying22 rfl | exact Ex.len rfl Tryd.runUnderlying22 rfl) rfl ?_
            refine O.ex (by first | exact Ex.loadP Tryd.isAgg5 rfl | exact Ex.loadR Tryd.isAgg5 rfl | exact Ex.loadIn1 Tryd.isAgg5 rfl (Holds.to (by assumption))) rfl ?_
            refine O.ex (by first | exact Ex.convToI Tryd.runUnderlying5 Tryd.runUnderlying3 rfl | exact Ex.convW Tryd.runUnderlying5 Tryd.runUnderlying3 rfl) rfl ?_
            refine O.ex (Ex.maxI rfl rfl) rfl ?_
            refine O.ex (Ex.minI rfl rfl) rfl ?_
            refine O.ex (Ex.neqI rfl rfl) rfl ?_
            refine O.ex (Ex.move rfl) rfl ?_
            refine O.known (t := 89) (c := false) rfl (by first | rfl | exact decide_eq_false (fun h => h rfl) | exact decide_eq_false (fun h => h hfin) | exact decide_eq_false (fun h => h hfr) | exact decide_eq_false (fun h => h h0) | exact decide_eq_true hpz | exact decide_eq_false (by omega)) ?_
            refine O.guard_f rfl rfl rfl rfl ?_
            refine O.guard_f rfl rfl rfl rfl ?_
            refine O.guard_f rfl rfl rfl rfl ?_
            refine O.guard_f rfl rfl rfl rfl ?_
            refine O.guard_u rfl rfl rfl ?_
            refine O.guard_u rfl rfl rfl ?_
            refine O.guard_f rfl rfl rfl rfl ?_
            refine O.ex (Ex.pick_f rfl rfl) rfl ?_
            refine O.nil ?_
            refine hK36 _ _ _ ?_
            refine W.cond_f rfl ?_
            refine W.skip ?_
            refine hK35 _ _ _ ?_
            refine W.seq (fun K37 hK37 => ?_)
            refine W.seq (fun K38 hK38 => ?_)
            refine W.region ?_
            refine O.ex (Ex.assign rfl) rfl ?_
            refine O.nil ?_
            refine hK38 _ _ _ ?_
            refine W.block ?_
            have H := mk_open.2 ⟨rv1, bv1, (Holds.to (M := MkO q rv1 bv1 rk s :: dblk D :: base w0 :: pt b11 (.cells #[va] 22 (0, 0)) :: arr 3 (Value.int .i64) va (alL rk s) :: pt b6 (.cells #[.bool false] 4 (0, 0)) :: []) (by assumption))⟩
            refine W.loop (σ := Nat × Nat) (fun z => [(0, rv), (6, .pointer (some ⟨b6, 0, none⟩)), (7, .pointer (some ⟨q, 0, none⟩)), (11, .pointer (some ⟨b11, 0, none⟩)), (14, .int .i64 (z.1 : Int))]) (fun z ds w => ds = [⟨.collected D, #[]⟩] ∧ z.1 ≤ (lst s).length ∧ SOk rk.length z.2 ∧ lst z.2 = (lst s).drop z.1 ∧ Holds w [dblk D, Mk q rk z.2, base w0, pt b11 (.cells #[va] 22 (0, 0)), arr 3 (Value.int .i64) va (alL rk s), pt b6 (.cells #[.bool false] 4 (0, 0))]) (fun z => (lst s).length - z.1) (0, s) ⟨rfl, rfl, rfl, rfl, rfl, trivial⟩ ⟨rfl, by dsimp only; omega, hok, rfl, Holds.to (by assumption)⟩ ?_
            clear H
            rintro ⟨i, t⟩ _ w ⟨rfl, hi, hok2, hlt2, H⟩
            dsimp only at hi hok2 hlt2 H ⊢
            refine W.seq (fun K39 hK39 => ?_)
            refine W.seq (fun K40 hK40 => ?_)
            refine W.region ?_
            refine O.ex (Ex.move rfl) rfl ?_
            refine O.ex (by first | exact Ex.loadP Tryd.isAgg22 rfl | exact Ex.loadR Tryd.isAgg22 rfl | exact Ex.loadIn1 Tryd.isAgg22 rfl (Holds.to (by assumption))) rfl ?_
            refine O.ex (by first | exact Ex.lenR Tryd.runUnderlying22 rfl | exact Ex.lenIn Tryd.runUnderlying22 rfl | exact Ex.lenL Tryd.runUnderlying22 rfl | exact Ex.len rfl Tryd.runUnderlying22 rfl) rfl ?_
            refine O.ex (Ex.lss rfl rfl) rfl ?_
            refine O.nil ?_
            refine hK40 _ _ _ ?_
            first | refine W.cond_p rfl (fun hin => ?_) (fun hout => ?_) | refine W.cond_b rfl (fun hin => ?_) (fun hout => ?_)
            · refine W.skip ?_
              refine hK39 _ _ _ ?_
              refine W.seq (fun K41 hK41 => ?_)
              refine W.block ?_
              refine W.seq (fun K42 hK42 => ?_)
              refine W.region ?_
              have hil : i < (lst s).length := by omega
              obtain ⟨h0, hfr, hnx⟩ := drop_take hr hok2 hlt2 hil
              have hi0 : (0 : Int) ≤ (i : Int) := by omega
              have hi3 : i < (alL rk s).length := by omega
              refine O.ex (Ex.move rfl) rfl ?_
              refine O.callF Tryd.call15 rfl rfl (CT.mono (qTake_ct (rk := rk) (s := t) hT hr hok2 (Holds.to (by assumption))) ?_)
              rintro _ w ⟨rfl, H⟩
              refine O.ex (Ex.move rfl) rfl ?_
              refine O.ex (Ex.extract rfl rfl) rfl ?_
              refine O.ex (Ex.extract rfl rfl) rfl ?_
              refine O.ex (Ex.assign rfl) rfl ?_
              refine O.ex (Ex.assign rfl) rfl ?_
              refine O.nil ?_
              refine hK42 _ _ _ ?_
              refine W.seq (fun K43 hK43 => ?_)
              refine W.region ?_
              refine O.ex (Ex.move rfl) rfl ?_
              refine O.ex (by first | exact Ex.loadP Tryd.isAgg22 rfl | exact Ex.loadR Tryd.isAgg22 rfl | exact Ex.loadIn1 Tryd.isAgg22 rfl (Holds.to (by assumption))) rfl ?_
              refine O.ex (Ex.move rfl) rfl ?_
              refine O.ex (by first | exact Ex.idxR Tryd.runUnderlying22 Tryd.sizeOf3 rfl rfl | exact Ex.idxIn Tryd.runUnderlying22 Tryd.sizeOf3 rfl rfl | exact Ex.idxS Tryd.runUnderlying22 Tryd.sizeOf3 rfl rfl | exact Ex.idx Tryd.runUnderlying22 Tryd.sizeOf3 rfl rfl (by omega) (by omega)) rfl ?_
              refine O.ex (by first | exact Ex.loadP Tryd.isAgg3 rfl | exact Ex.loadR Tryd.isAgg3 rfl | exact Ex.loadIn1 Tryd.isAgg3 rfl (Holds.to (by assumption))) rfl ?_
              refine O.ex (Ex.neqI rfl rfl) rfl ?_
              refine O.ex (Ex.move rfl) rfl ?_
              refine O.known (t := 115) (c := false) rfl (by first | rfl | exact decide_eq_false (fun h => h rfl) | exact decide_eq_false (fun h => h hfin) | exact decide_eq_false (fun h => h hfr) | exact decide_eq_false (fun h => h h0) | exact decide_eq_true hpz | exact decide_eq_false (by omega)) ?_
              refine O.guard_t rfl rfl ?_
              refine O.ex (Ex.move rfl) rfl ?_
              refine O.guard_t rfl rfl ?_
              refine O.ex (by first | exact Ex.notD rfl | exact Ex.not rfl) rfl ?_
              refine O.ex (Ex.pick_f rfl rfl) rfl ?_
              refine O.nil ?_
              refine hK43 _ _ _ ?_
              refine W.known_f rfl (by first | rfl | exact decide_eq_false (fun h => h rfl) | exact decide_eq_false (fun h => h hfin) | exact decide_eq_false (fun h => h hfr) | exact decide_eq_false (fun h => h h0) | exact decide_eq_true hpz | exact decide_eq_false (by omega)) ?_
              refine W.skip ?_
              refine hK41 _ _ _ ?_
              refine W.region ?_
              refine O.ex (Ex.move rfl) rfl ?_
              refine O.ex (by first | exact Ex.addI rfl rfl | exact Ex.add rfl rfl rfl) rfl ?_
              refine O.ex (Ex.assign rfl) rfl ?_
              refine O.nil ?_
              exact ⟨(i + 1, tks rk t), ⟨rfl, rfl, rfl, rfl, rfl, trivial⟩, ⟨rfl, by dsimp only; omega, tks_ok hok2, hnx, Holds.to (by assumption)⟩, by dsimp only; omega⟩
            · refine W.exit ?_
              refine hK37 _ _ _ ?_
              refine W.seq (fun K44 hK44 => ?_)
              refine W.region ?_
              have hdr : (lst s).drop i = [] := List.drop_eq_nil_of_le (by omega)
              rw [hdr] at hlt2
              have ht0 : t = 0 := (lst_nil hok2.1).1 hlt2
              have hpz : ((pop t : Nat) : Int) = 0 := by rw [pop_len, hlt2]; rfl
              have hfz : flr rk t = (rk.length : Int) := by unfold flr; rw [if_pos ht0]
              refine O.ex (Ex.move rfl) rfl ?_
              refine O.callF Tryd.call16 rfl rfl (CT.mono (qLen_ct (rk := rk) (s := t) hok2.1 (Holds.to (by assumption))) ?_)
              rintro _ w ⟨rfl, H⟩
              refine O.ex (Ex.eqlI rfl rfl) rfl ?_
              refine O.ex (Ex.move rfl) rfl ?_
              refine O.known (t := 122) (c := true) rfl (by first | rfl | exact decide_eq_false (fun h => h rfl) | exact decide_eq_false (fun h => h hfin) | exact decide_eq_false (fun h => h hfr) | exact decide_eq_false (fun h => h h0) | exact decide_eq_true hpz | exact decide_eq_false (by omega)) ?_
              refine O.guard_t rfl rfl ?_
              refine O.ex (Ex.move rfl) rfl ?_
              refine O.guard_t rfl rfl ?_
              refine O.callF Tryd.call17 rfl rfl (CT.mono (qFloor_ct (rk := rk) (s := t) hT hok2.1 (Holds.to (by assumption))) ?_)
              rintro _ w ⟨rfl, H⟩
              refine O.guard_t rfl rfl ?_
              refine O.ex (Ex.move rfl) rfl ?_
              refine O.guard_t rfl rfl ?_
              refine O.ex (by first | exact Ex.lenR Tryd.runUnderlying22 rfl | exact Ex.lenIn Tryd.runUnderlying22 rfl | exact Ex.lenL Tryd.runUnderlying22 rfl | exact Ex.len rfl Tryd.runUnderlying22 rfl) rfl ?_
              refine O.guard_t rfl rfl ?_
              refine O.ex (Ex.eqlI rfl rfl) rfl ?_
              refine O.ex (Ex.pick_t rfl rfl) rfl ?_
              first | refine O.storeP Tryd.sizeOf4 rfl rfl (fun w H => ?_) | refine O.storeR Tryd.sizeOf4 rfl rfl (fun w H => ?_)
              refine O.nil ?_
              refine hK44 _ _ _ ?_
              refine W.ret ?_
              try dsimp only [thenQ, blockQ, retQ]
              first | refine ⟨_, ⟨_, _, _, rfl, rfl, loadVar_one Tryd.isAgg4, rfl⟩, ?_⟩ | (refine retD_mark ?_; intro w H; refine ⟨_, ⟨_, _, _, rfl, rfl, loadVar_one Tryd.isAgg4, rfl⟩, ?_⟩) | (refine retD_mark2 ?_; intro w H; refine ⟨_, ⟨_, _, _, rfl, rfl, loadVar_one Tryd.isAgg4, rfl⟩, ?_⟩)
              exact ⟨by first | rfl | exact congrArg Value.bool (decide_eq_true hfz), Holds.base_below (L := []) (Holds.to (by assumption))⟩
      · refine O.guard_f rfl rfl rfl rfl ?_
        refine O.guard_f rfl rfl rfl rfl ?_
        refine O.ex (Ex.pick_f rfl rfl) rfl ?_
        refine O.nil ?_
        refine hK14 _ _ _ ?_
        refine W.cond_f rfl ?_
        refine W.exit ?_
        refine hK11 _ _ _ ?_
        refine W.seq (fun K45 hK45 => ?_)
        refine W.region ?_
        have hal : (alL rk s).length = (lst s).length := alL_len rk s
        have hl64 := lst_le s
        refine O.ex (Ex.move rfl) rfl ?_
        refine O.callF Tryd.call13 rfl rfl (CT.mono (rqAll_ct (rk := rk) (s := s) hr hok (Holds.to (by assumption))) ?_)
        rintro _ w ⟨hva, H⟩
        rename_i va
        refine O.allocP Tryd.zeroValue22 (fun b11 w H => ?_)
        first | refine O.storeP Tryd.sizeOf22 rfl rfl (fun w H => ?_) | refine O.storeR Tryd.sizeOf22 rfl rfl (fun w H => ?_)
        refine O.nil ?_
        refine hK45 _ _ _ ?_
        refine W.seq (fun K46 hK46 => ?_)
        refine W.region ?_
        refine O.allocP Tryd.zeroValue3 (fun b12 w H => ?_)
        first | refine O.storeP Tryd.sizeOf3 rfl rfl (fun w H => ?_) | refine O.storeR Tryd.sizeOf3 rfl rfl (fun w H => ?_)
        refine O.nil ?_
        refine hK46 _ _ _ ?_
        refine W.seq (fun K47 hK47 => ?_)
        refine W.seq (fun K48 hK48 => ?_)
        refine W.region ?_
        refine O.ex (Ex.move rfl) rfl ?_
        refine O.callF Tryd.call14 rfl rfl (CT.mono (qAll_ct (q := q) (Holds.to (by assumption))) ?_)
        rintro _ w ⟨c, rfl, H⟩
        refine O.nil ?_
        refine hK48 _ _ _ ?_
        refine W.block ?_
        obtain ⟨rv1, bv1, H⟩ := mk_open.1 (Holds.to (M := Mk q rk s :: capQ c q :: base w0 :: pt b12 (.cells #[.int .i64 0] 3 (0, 0)) :: pt b11 (.cells #[va] 22 (0, 0)) :: arr 3 (Value.int .i64) va (alL rk s) :: pt b5 (.cells #[.int .u8 m] 5 (0, 0)) :: pt b6 (.cells #[.bool false] 4 (0, 0)) :: []) (by assumption))
        refine W.rangeFunc rfl Tryd.call33 H ?_
        rintro LR kk D w hLR H
        refine CT.mono (qAll1_ct (c := c) (q := q) (rv := rv1) (bv := bv1) (rk := rk) (s := s) (w0 := w0) (κ := Int) (σ := fun kk => kk = max m 1 ∧ kk ≤ (lst s).length) (SL := fun kk => [LR .done (some (.exit 2)), dblk D, base w0, MkO q rv1 bv1 rk s, pt b12 (.cells #[.int .i64 kk] 3 (0, 0)), pt b11 (.cells #[va] 22 (0, 0)), arr 3 (Value.int .i64) va (alL rk s), pt b5 (.cells #[.int .u8 m] 5 (0, 0)), pt b6 (.cells #[.bool false] 4 (0, 0))])
          (J := fun j => [LR .ready none, dblk D, pt b12 (.cells #[.int .i64 (j : Int)] 3 (0, 0)), pt b11 (.cells #[va] 22 (0, 0)), arr 3 (Value.int .i64) va (alL rk s), pt b5 (.cells #[.int .u8 m] 5 (0, 0)), pt b6 (.cells #[.bool false] 4 (0, 0))]) (φ := fun j => j = 0 ∨ (j : Int) < m) rfl hT hr hok (.inl rfl) (Holds.to (by assumption)) ?_) ?_
        · intro F j w hj hφ H
          have hj2 : j < (alL rk s).length := by omega
          refine VT.round hLR (Holds.to (by assumption)) rfl rfl ?_
          refine W.region ?_
          refine O.ex (Ex.assign rfl) rfl ?_
          refine O.nil ?_
          refine ⟨_, Holds.to (by assumption), fun w H => ?_⟩
          refine W.block ?_
          refine W.seq (fun K49 hK49 => ?_)
          refine W.seq (fun K50 hK50 => ?_)
          refine W.region ?_
          refine O.ex (by first | exact Ex.loadP Tryd.isAgg3 rfl | exact Ex.loadR Tryd.isAgg3 rfl | exact Ex.loadIn1 Tryd.isAgg3 rfl (Holds.to (by assumption))) rfl ?_
          refine O.ex (by first | exact Ex.loadP Tryd.isAgg22 rfl | exact Ex.loadR Tryd.isAgg22 rfl | exact Ex.loadIn1 Tryd.isAgg22 rfl (Holds.to (by assumption))) rfl ?_
          refine O.ex (by first | exact Ex.lenR Tryd.runUnderlying22 rfl | exact Ex.lenIn Tryd.runUnderlying22 rfl | exact Ex.lenL Tryd.runUnderlying22 rfl | exact Ex.len rfl Tryd.runUnderlying22 rfl) rfl ?_
          refine O.ex (Ex.geq rfl rfl) rfl ?_
          refine O.ex (Ex.move rfl) rfl ?_
          refine O.known (t := 67) (c := false) rfl (by first | rfl | exact decide_eq_false (fun h => h rfl) | exact decide_eq_false (fun h => h hfin) | exact decide_eq_false (fun h => h hfr) | exact decide_eq_false (fun h => h h0) | exact decide_eq_true hpz | exact decide_eq_false (by omega)) ?_
          refine O.guard_t rfl rfl ?_
          refine O.ex (by first | exact Ex.loadP Tryd.isAgg22 rfl | exact Ex.loadR Tryd.isAgg22 rfl | exact Ex.loadIn1 Tryd.isAgg22 rfl (Holds.to (by assumption))) rfl ?_
          refine O.guard_t rfl rfl ?_
          refine O.ex (by first | exact Ex.loadP Tryd.isAgg3 rfl | exact Ex.loadR Tryd.isAgg3 rfl | exact Ex.loadIn1 Tryd.isAgg3 rfl (Holds.to (by assumption))) rfl ?_
          refine O.guard_t rfl rfl ?_
          refine O.ex (by first | exact Ex.idxR Tryd.runUnderlying22 Tryd.sizeOf3 rfl rfl | exact Ex.idxIn Tryd.runUnderlying22 Tryd.sizeOf3 rfl rfl | exact Ex.idxS Tryd.runUnderlying22 Tryd.sizeOf3 rfl rfl | exact Ex.idx Tryd.runUnderlying22 Tryd.sizeOf3 rfl rfl (by omega) (by omega)) rfl ?_
          refine O.guard_t rfl rfl ?_
          refine O.ex (by first | exact Ex.loadP Tryd.isAgg3 rfl | exact Ex.loadR Tryd.isAgg3 rfl | exact Ex.loadIn1 Tryd.isAgg3 rfl (Holds.to (by assumption))) rfl ?_
          refine O.guard_t rfl rfl ?_
          refine O.ex (Ex.move rfl) rfl ?_
          refine O.guard_t rfl rfl ?_
          refine O.ex (Ex.neqI rfl rfl) rfl ?_
          refine O.ex (Ex.pick_f rfl rfl) rfl ?_
          refine O.nil ?_
          refine hK50 _ _ _ ?_
          refine W.known_f rfl (by first | rfl | exact decide_eq_false (fun h => h rfl) | exact decide_eq_false (fun h => h hfin) | exact decide_eq_false (fun h => h hfr) | exact decide_eq_false (fun h => h h0) | exact decide_eq_true hpz | exact decide_eq_false (by omega)) ?_
          refine W.skip ?_
          refine hK49 _ _ _ ?_
          refine W.seq (fun K51 hK51 => ?_)
          refine W.region ?_
          refine O.ex (by first | exact Ex.loadP Tryd.isAgg3 rfl | exact Ex.loadR Tryd.isAgg3 rfl | exact Ex.loadIn1 Tryd.isAgg3 rfl (Holds.to (by assumption))) rfl ?_
          refine O.ex (by first | exact Ex.addI rfl rfl | exact Ex.add rfl rfl rfl) rfl ?_
          first | refine O.storeP Tryd.sizeOf3 rfl rfl (fun w H => ?_) | refine O.storeR Tryd.sizeOf3 rfl rfl (fun w H => ?_)
          refine O.nil ?_
          refine hK51 _ _ _ ?_
          refine W.seq (fun K52 hK52 => ?_)
          refine W.region ?_
          refine O.ex (by first | exact Ex.loadP Tryd.isAgg3 rfl | exact Ex.loadR Tryd.isAgg3 rfl | exact Ex.loadIn1 Tryd.isAgg3 rfl (Holds.to (by assumption))) rfl ?_
          refine O.ex (by first | exact Ex.loadP Tryd.isAgg5 rfl | exact Ex.loadR Tryd.isAgg5 rfl | exact Ex.loadIn1 Tryd.isAgg5 rfl (Holds.to (by assumption))) rfl ?_
          refine O.ex (by first | exact Ex.convToI Tryd.runUnderlying5 Tryd.runUnderlying3 rfl | exact Ex.convW Tryd.runUnderlying5 Tryd.runUnderlying3 rfl) rfl ?_
          refine O.ex (Ex.geq rfl rfl) rfl ?_
          refine O.nil ?_
          refine hK52 _ _ _ ?_
          first | refine W.cond_p rfl (fun h80 => ?_) (fun h80 => ?_) | refine W.cond_b rfl (fun h80 => ?_) (fun h80 => ?_)
          · refine W.exit ?_
            exact ⟨_, Holds.to (by assumption), fun w H => .inr ⟨rfl, (j : Int) + 1, ⟨by omega, by omega⟩, Holds.to (by assumption)⟩⟩
          · refine W.skip ?_
            exact ⟨_, Holds.to (by assumption), fun w H => .inl ⟨rfl, .inr (by omega), Holds.to (by assumption)⟩⟩
        rintro _ w (⟨hφ, H⟩ | ⟨kk, ⟨hk1, hk2⟩, H⟩)
        all_goals refine rangeEnd (Holds.to (by assumption)) (by nofun) (fun w H => ?_)
        · skip
          refine hK47 _ _ _ ?_
          refine W.seq (fun K53 hK53 => ?_)
          refine W.seq (fun K54 hK54 => ?_)
          refine W.region ?_
          first
          | have hfin : kk = min ((alL rk s).length : Int) (max m 1) := by omega
          | have hfin : (((lst s).length : Nat) : Int) = min ((alL rk s).length : Int) (max m 1) := by omega
          refine O.ex (by first | exact Ex.loadP Tryd.isAgg3 rfl | exact Ex.loadR Tryd.isAgg3 rfl | exact Ex.loadIn1 Tryd.isAgg3 rfl (Holds.to (by assumption))) rfl ?_
          refine O.ex (by first | exact Ex.loadP Tryd.isAgg22 rfl | exact Ex.loadR Tryd.isAgg22 rfl | exact Ex.loadIn1 Tryd.isAgg22 rfl (Holds.to (by assumption))) rfl ?_
          refine O.ex (by first | exact Ex.lenR Tryd.runUnderlying22 rfl | exact Ex.lenIn Tryd.runUnderlying22 rfl | exact Ex.lenL Tryd.runUnderlying22 rfl | exact Ex.len rfl Tryd.runUnderlying22 rfl) rfl ?_
          refine O.ex (by first | exact Ex.loadP Tryd.isAgg5 rfl | exact Ex.loadR Tryd.isAgg5 rfl | exact Ex.loadIn1 Tryd.isAgg5 rfl (Holds.to (by assumption))) rfl ?_
          refine O.ex (by first | exact Ex.convToI Tryd.runUnderlying5 Tryd.runUnderlying3 rfl | exact Ex.convW Tryd.runUnderlying5 Tryd.runUnderlying3 rfl) rfl ?_
          refine O.ex (Ex.maxI rfl rfl) rfl ?_
          refine O.ex (Ex.minI rfl rfl) rfl ?_
          refine O.ex (Ex.neqI rfl rfl) rfl ?_
          refine O.ex (Ex.move rfl) rfl ?_
          refine O.known (t := 89) (c := false) rfl (by first | rfl | exact decide_eq_false (fun h => h rfl) | exact decide_eq_false (fun h => h hfin) | exact decide_eq_false (fun h => h hfr) | exact decide_eq_false (fun h => h h0) | exact decide_eq_true hpz | exact decide_eq_false (by omega)) ?_
          refine O.guard_f rfl rfl rfl rfl ?_
          refine O.guard_f rfl rfl rfl rfl ?_
          refine O.guard_f rfl rfl rfl rfl ?_
          refine O.guard_f rfl rfl rfl rfl ?_
          refine O.guard_u rfl rfl rfl ?_
          refine O.guard_u rfl rfl rfl ?_
          refine O.guard_f rfl rfl rfl rfl ?_
          refine O.ex (Ex.pick_f rfl rfl) rfl ?_
          refine O.nil ?_
          refine hK54 _ _ _ ?_
          refine W.cond_f rfl ?_
          refine W.skip ?_
          refine hK53 _ _ _ ?_
          refine W.seq (fun K55 hK55 => ?_)
          refine W.seq (fun K56 hK56 => ?_)
          refine W.region ?_
          refine O.ex (Ex.assign rfl) rfl ?_
          refine O.nil ?_
          refine hK56 _ _ _ ?_
          refine W.block ?_
          have H := mk_open.2 ⟨rv1, bv1, (Holds.to (M := MkO q rv1 bv1 rk s :: dblk D :: base w0 :: pt b11 (.cells #[va] 22 (0, 0)) :: arr 3 (Value.int .i64) va (alL rk s) :: pt b6 (.cells #[.bool false] 4 (0, 0)) :: []) (by assumption))⟩
          refine W.loop (σ := Nat × Nat) (fun z => [(0, rv), (6, .pointer (some ⟨b6, 0, none⟩)), (7, .pointer (some ⟨q, 0, none⟩)), (11, .pointer (some ⟨b11, 0, none⟩)), (14, .int .i64 (z.1 : Int))]) (fun z ds w => ds = [⟨.collected D, #[]⟩] ∧ z.1 ≤ (lst s).length ∧ SOk rk.length z.2 ∧ lst z.2 = (lst s).drop z.1 ∧ Holds w [dblk D, Mk q rk z.2, base w0, pt b11 (.cells #[va] 22 (0, 0)), arr 3 (Value.int .i64) va (alL rk s), pt b6 (.cells #[.bool false] 4 (0, 0))]) (fun z => (lst s).length - z.1) (0, s) ⟨rfl, rfl, rfl, rfl, rfl, trivial⟩ ⟨rfl, by dsimp only; omega, hok, rfl, Holds.to (by assumption)⟩ ?_
          clear H
          rintro ⟨i, t⟩ _ w ⟨rfl, hi, hok2, hlt2, H⟩
          dsimp only at hi hok2 hlt2 H ⊢
          refine W.seq (fun K57 hK57 => ?_)
          refine W.seq (fun K58 hK58 => ?_)
          refine W.region ?_
          refine O.ex (Ex.move rfl) rfl ?_
          refine O.ex (by first | exact Ex.loadP Tryd.isAgg22 rfl | exact Ex.loadR Tryd.isAgg22 rfl | exact Ex.loadIn1 Tryd.isAgg22 rfl (Holds.to (by assumption))) rfl ?_
          refine O.ex (by first | exact Ex.lenR Tryd.runUnderlying22 rfl | exact Ex.lenIn Tryd.runUnderlying22 rfl | exact Ex.lenL Tryd.runUnderlying22 rfl | exact Ex.len rfl Tryd.runUnderlying22 rfl) rfl ?_
          refine O.ex (Ex.lss rfl rfl) rfl ?_
          refine O.nil ?_
          refine hK58 _ _ _ ?_
          first | refine W.cond_p rfl (fun hin => ?_) (fun hout => ?_) | refine W.cond_b rfl (fun hin => ?_) (fun hout => ?_)
          · refine W.skip ?_
            refine hK57 _ _ _ ?_
            refine W.seq (fun K59 hK59 => ?_)
            refine W.block ?_
            refine W.seq (fun K60 hK60 => ?_)
            refine W.region ?_
            have hil : i < (lst s).length := by omega
            obtain ⟨h0, hfr, hnx⟩ := drop_take hr hok2 hlt2 hil
            have hi0 : (0 : Int) ≤ (i : Int) := by omega
            have hi3 : i < (alL rk s).length := by omega
            refine O.ex (Ex.move rfl) rfl ?_
            refine O.callF Tryd.call15 rfl rfl (CT.mono (qTake_ct (rk := rk) (s := t) hT hr hok2 (Holds.to (by assumption))) ?_)
            rintro _ w ⟨rfl, H⟩
            refine O.ex (Ex.move rfl) rfl ?_
            refine O.ex (Ex.extract rfl rfl) rfl ?_
            refine O.ex (Ex.extract rfl rfl) rfl ?_
            refine O.ex (Ex.assign rfl) rfl ?_
            refine O.ex (Ex.assign rfl) rfl ?_
            refine O.nil ?_
            refine hK60 _ _ _ ?_
            refine W.seq (fun K61 hK61 => ?_)
            refine W.region ?_
            refine O.ex (Ex.move rfl) rfl ?_
            refine O.ex (by first | exact Ex.loadP Tryd.isAgg22 rfl | exact Ex.loadR Tryd.isAgg22 rfl | exact Ex.loadIn1 Tryd.isAgg22 rfl (Holds.to (by assumption))) rfl ?_
            refine O.ex (Ex.move rfl) rfl ?_
            refine O.ex (by first | exact Ex.idxR Tryd.runUnderlying22 Tryd.sizeOf3 rfl rfl | exact Ex.idxIn Tryd.runUnderlying22 Tryd.sizeOf3 rfl rfl | exact Ex.idxS Tryd.runUnderlying22 Tryd.sizeOf3 rfl rfl | exact Ex.idx Tryd.runUnderlying22 Tryd.sizeOf3 rfl rfl (by omega) (by omega)) rfl ?_
            refine O.ex (by first | exact Ex.loadP Tryd.isAgg3 rfl | exact Ex.loadR Tryd.isAgg3 rfl | exact Ex.loadIn1 Tryd.isAgg3 rfl (Holds.to (by assumption))) rfl ?_
            refine O.ex (Ex.neqI rfl rfl) rfl ?_
            refine O.ex (Ex.move rfl) rfl ?_
            refine O.known (t := 115) (c := false) rfl (by first | rfl | exact decide_eq_false (fun h => h rfl) | exact decide_eq_false (fun h => h hfin) | exact decide_eq_false (fun h => h hfr) | exact decide_eq_false (fun h => h h0) | exact decide_eq_true hpz | exact decide_eq_false (by omega)) ?_
            refine O.guard_t rfl rfl ?_
            refine O.ex (Ex.move rfl) rfl ?_
            refine O.guard_t rfl rfl ?_
            refine O.ex (by first | exact Ex.notD rfl | exact Ex.not rfl) rfl ?_
            refine O.ex (Ex.pick_f rfl rfl) rfl ?_
            refine O.nil ?_
            refine hK61 _ _ _ ?_
            refine W.known_f rfl (by first | rfl | exact decide_eq_false (fun h => h rfl) | exact decide_eq_false (fun h => h hfin) | exact decide_eq_false (fun h => h hfr) | exact decide_eq_false (fun h => h h0) | exact decide_eq_true hpz | exact decide_eq_false (by omega)) ?_
            refine W.skip ?_
            refine hK59 _ _ _ ?_
            refine W.region ?_
            refine O.ex (Ex.move rfl) rfl ?_
            refine O.ex (by first | exact Ex.addI rfl rfl | exact Ex.add rfl rfl rfl) rfl ?_
            refine O.ex (Ex.assign rfl) rfl ?_
            refine O.nil ?_
            exact ⟨(i + 1, tks rk t), ⟨rfl, rfl, rfl, rfl, rfl, trivial⟩, ⟨rfl, by dsimp only; omega, tks_ok hok2, hnx, Holds.to (by assumption)⟩, by dsimp only; omega⟩
          · refine W.exit ?_
            refine hK55 _ _ _ ?_
            refine W.seq (fun K62 hK62 => ?_)
            refine W.region ?_
            have hdr : (lst s).drop i = [] := List.drop_eq_nil_of_le (by omega)
            rw [hdr] at hlt2
            have ht0 : t = 0 := (lst_nil hok2.1).1 hlt2
            have hpz : ((pop t : Nat) : Int) = 0 := by rw [pop_len, hlt2]; rfl
            have hfz : flr rk t = (rk.length : Int) := by unfold flr; rw [if_pos ht0]
            refine O.ex (Ex.move rfl) rfl ?_
            refine O.callF Tryd.call16 rfl rfl (CT.mono (qLen_ct (rk := rk) (s := t) hok2.1 (Holds.to (by assumption))) ?_)
            rintro _ w ⟨rfl, H⟩
            refine O.ex (Ex.eqlI rfl rfl) rfl ?_
            refine O.ex (Ex.move rfl) rfl ?_
            refine O.known (t := 122) (c := true) rfl (by first | rfl | exact decide_eq_false (fun h => h rfl) | exact decide_eq_false (fun h => h hfin) | exact decide_eq_false (fun h => h hfr) | exact decide_eq_false (fun h => h h0) | exact decide_eq_true hpz | exact decide_eq_false (by omega)) ?_
            refine O.guard_t rfl rfl ?_
            refine O.ex (Ex.move rfl) rfl ?_
            refine O.guard_t rfl rfl ?_
            refine O.callF Tryd.call17 rfl rfl (CT.mono (qFloor_ct (rk := rk) (s := t) hT hok2.1 (Holds.to (by assumption))) ?_)
            rintro _ w ⟨rfl, H⟩
            refine O.guard_t rfl rfl ?_
            refine O.ex (Ex.move rfl) rfl ?_
            refine O.guard_t rfl rfl ?_
            refine O.ex (by first | exact Ex.lenR Tryd.runUnderlying22 rfl | exact Ex.lenIn Tryd.runUnderlying22 rfl | exact Ex.lenL Tryd.runUnderlying22 rfl | exact Ex.len rfl Tryd.runUnderlying22 rfl) rfl ?_
            refine O.guard_t rfl rfl ?_
            refine O.ex (Ex.eqlI rfl rfl) rfl ?_
            refine O.ex (Ex.pick_t rfl rfl) rfl ?_
            first | refine O.storeP Tryd.sizeOf4 rfl rfl (fun w H => ?_) | refine O.storeR Tryd.sizeOf4 rfl rfl (fun w H => ?_)
            refine O.nil ?_
            refine hK62 _ _ _ ?_
            refine W.ret ?_
            try dsimp only [thenQ, blockQ, retQ]
            first | refine ⟨_, ⟨_, _, _, rfl, rfl, loadVar_one Tryd.isAgg4, rfl⟩, ?_⟩ | (refine retD_mark ?_; intro w H; refine ⟨_, ⟨_, _, _, rfl, rfl, loadVar_one Tryd.isAgg4, rfl⟩, ?_⟩) | (refine retD_mark2 ?_; intro w H; refine ⟨_, ⟨_, _, _, rfl, rfl, loadVar_one Tryd.isAgg4, rfl⟩, ?_⟩)
            exact ⟨by first | rfl | exact congrArg Value.bool (decide_eq_true hfz), Holds.base_below (L := []) (Holds.to (by assumption))⟩
        · skip
          refine W.exit ?_
          refine hK47 _ _ _ ?_
          refine W.seq (fun K63 hK63 => ?_)
          refine W.seq (fun K64 hK64 => ?_)
          refine W.region ?_
          first
          | have hfin : kk = min ((alL rk s).length : Int) (max m 1) := by omega
          | have hfin : (((lst s).length : Nat) : Int) = min ((alL rk s).length : Int) (max m 1) := by omega
          refine O.ex (by first | exact Ex.loadP Tryd.isAgg3 rfl | exact Ex.loadR Tryd.isAgg3 rfl | exact Ex.loadIn1 Tryd.isAgg3 rfl (Holds.to (by assumption))) rfl ?_
          refine O.ex (by first | exact Ex.loadP Tryd.isAgg22 rfl | exact Ex.loadR Tryd.isAgg22 rfl | exact Ex.loadIn1 Tryd.isAgg22 rfl (Holds.to (by assumption))) rfl ?_
          refine O.ex (by first | exact Ex.lenR Tryd.runUnderlying22 rfl | exact Ex.lenIn Tryd.runUnderlying22 rfl | exact Ex.lenL Tryd.runUnderlying22 rfl | exact Ex.len rfl Tryd.runUnderlying22 rfl) rfl ?_
          refine O.ex (by first | exact Ex.loadP Tryd.isAgg5 rfl | exact Ex.loadR Tryd.isAgg5 rfl | exact Ex.loadIn1 Tryd.isAgg5 rfl (Holds.to (by assumption))) rfl ?_
          refine O.ex (by first | exact Ex.convToI Tryd.runUnderlying5 Tryd.runUnderlying3 rfl | exact Ex.convW Tryd.runUnderlying5 Tryd.runUnderlying3 rfl) rfl ?_
          refine O.ex (Ex.maxI rfl rfl) rfl ?_
          refine O.ex (Ex.minI rfl rfl) rfl ?_
          refine O.ex (Ex.neqI rfl rfl) rfl ?_
          refine O.ex (Ex.move rfl) rfl ?_
          refine O.known (t := 89) (c := false) rfl (by first | rfl | exact decide_eq_false (fun h => h rfl) | exact decide_eq_false (fun h => h hfin) | exact decide_eq_false (fun h => h hfr) | exact decide_eq_false (fun h => h h0) | exact decide_eq_true hpz | exact decide_eq_false (by omega)) ?_
          refine O.guard_f rfl rfl rfl rfl ?_
          refine O.guard_f rfl rfl rfl rfl ?_
          refine O.guard_f rfl rfl rfl rfl ?_
          refine O.guard_f rfl rfl rfl rfl ?_
          refine O.guard_u rfl rfl rfl ?_
          refine O.guard_u rfl rfl rfl ?_
          refine O.guard_f rfl rfl rfl rfl ?_
          refine O.ex (Ex.pick_f rfl rfl) rfl ?_
          refine O.nil ?_
          refine hK64 _ _ _ ?_
          refine W.cond_f rfl ?_
          refine W.skip ?_
          refine hK63 _ _ _ ?_
          refine W.seq (fun K65 hK65 => ?_)
          refine W.seq (fun K66 hK66 => ?_)
          refine W.region ?_
          refine O.ex (Ex.assign rfl) rfl ?_
          refine O.nil ?_
          refine hK66 _ _ _ ?_
          refine W.block ?_
          have H := mk_open.2 ⟨rv1, bv1, (Holds.to (M := MkO q rv1 bv1 rk s :: dblk D :: base w0 :: pt b11 (.cells #[va] 22 (0, 0)) :: arr 3 (Value.int .i64) va (alL rk s) :: pt b6 (.cells #[.bool false] 4 (0, 0)) :: []) (by assumption))⟩
          refine W.loop (σ := Nat × Nat) (fun z => [(0, rv), (6, .pointer (some ⟨b6, 0, none⟩)), (7, .pointer (some ⟨q, 0, none⟩)), (11, .pointer (some ⟨b11, 0, none⟩)), (14, .int .i64 (z.1 : Int))]) (fun z ds w => ds = [⟨.collected D, #[]⟩] ∧ z.1 ≤ (lst s).length ∧ SOk rk.length z.2 ∧ lst z.2 = (lst s).drop z.1 ∧ Holds w [dblk D, Mk q rk z.2, base w0, pt b11 (.cells #[va] 22 (0, 0)), arr 3 (Value.int .i64) va (alL rk s), pt b6 (.cells #[.bool false] 4 (0, 0))]) (fun z => (lst s).length - z.1) (0, s) ⟨rfl, rfl, rfl, rfl, rfl, trivial⟩ ⟨rfl, by dsimp only; omega, hok, rfl, Holds.to (by assumption)⟩ ?_
          clear H
          rintro ⟨i, t⟩ _ w ⟨rfl, hi, hok2, hlt2, H⟩
          dsimp only at hi hok2 hlt2 H ⊢
          refine W.seq (fun K67 hK67 => ?_)
          refine W.seq (fun K68 hK68 => ?_)
          refine W.region ?_
          refine O.ex (Ex.move rfl) rfl ?_
          refine O.ex (by first | exact Ex.loadP Tryd.isAgg22 rfl | exact Ex.loadR Tryd.isAgg22 rfl | exact Ex.loadIn1 Tryd.isAgg22 rfl (Holds.to (by assumption))) rfl ?_
          refine O.ex (by first | exact Ex.lenR Tryd.runUnderlying22 rfl | exact Ex.lenIn Tryd.runUnderlying22 rfl | exact Ex.lenL Tryd.runUnderlying22 rfl | exact Ex.len rfl Tryd.runUnderlying22 rfl) rfl ?_
          refine O.ex (Ex.lss rfl rfl) rfl ?_
          refine O.nil ?_
          refine hK68 _ _ _ ?_
          first | refine W.cond_p rfl (fun hin => ?_) (fun hout => ?_) | refine W.cond_b rfl (fun hin => ?_) (fun hout => ?_)
          · refine W.skip ?_
            refine hK67 _ _ _ ?_
            refine W.seq (fun K69 hK69 => ?_)
            refine W.block ?_
            refine W.seq (fun K70 hK70 => ?_)
            refine W.region ?_
            have hil : i < (lst s).length := by omega
            obtain ⟨h0, hfr, hnx⟩ := drop_take hr hok2 hlt2 hil
            have hi0 : (0 : Int) ≤ (i : Int) := by omega
            have hi3 : i < (alL rk s).length := by omega
            refine O.ex (Ex.move rfl) rfl ?_
            refine O.callF Tryd.call15 rfl rfl (CT.mono (qTake_ct (rk := rk) (s := t) hT hr hok2 (Holds.to (by assumption))) ?_)
            rintro _ w ⟨rfl, H⟩
            refine O.ex (Ex.move rfl) rfl ?_
            refine O.ex (Ex.extract rfl rfl) rfl ?_
            refine O.ex (Ex.extract rfl rfl) rfl ?_
            refine O.ex (Ex.assign rfl) rfl ?_
            refine O.ex (Ex.assign rfl) rfl ?_
            refine O.nil ?_
            refine hK70 _ _ _ ?_
            refine W.seq (fun K71 hK71 => ?_)
            refine W.region ?_
            refine O.ex (Ex.move rfl) rfl ?_
            refine O.ex (by first | exact Ex.loadP Tryd.isAgg22 rfl | exact Ex.loadR Tryd.isAgg22 rfl | exact Ex.loadIn1 Tryd.isAgg22 rfl (Holds.to (by assumption))) rfl ?_
            refine O.ex (Ex.move rfl) rfl ?_
            refine O.ex (by first | exact Ex.idxR Tryd.runUnderlying22 Tryd.sizeOf3 rfl rfl | exact Ex.idxIn Tryd.runUnderlying22 Tryd.sizeOf3 rfl rfl | exact Ex.idxS Tryd.runUnderlying22 Tryd.sizeOf3 rfl rfl | exact Ex.idx Tryd.runUnderlying22 Tryd.sizeOf3 rfl rfl (by omega) (by omega)) rfl ?_
            refine O.ex (by first | exact Ex.loadP Tryd.isAgg3 rfl | exact Ex.loadR Tryd.isAgg3 rfl | exact Ex.loadIn1 Tryd.isAgg3 rfl (Holds.to (by assumption))) rfl ?_
            refine O.ex (Ex.neqI rfl rfl) rfl ?_
            refine O.ex (Ex.move rfl) rfl ?_
            refine O.known (t := 115) (c := false) rfl (by first | rfl | exact decide_eq_false (fun h => h rfl) | exact decide_eq_false (fun h => h hfin) | exact decide_eq_false (fun h => h hfr) | exact decide_eq_false (fun h => h h0) | exact decide_eq_true hpz | exact decide_eq_false (by omega)) ?_
            refine O.guard_t rfl rfl ?_
            refine O.ex (Ex.move rfl) rfl ?_
            refine O.guard_t rfl rfl ?_
            refine O.ex (by first | exact Ex.notD rfl | exact Ex.not rfl) rfl ?_
            refine O.ex (Ex.pick_f rfl rfl) rfl ?_
            refine O.nil ?_
            refine hK71 _ _ _ ?_
            refine W.known_f rfl (by first | rfl | exact decide_eq_false (fun h => h rfl) | exact decide_eq_false (fun h => h hfin) | exact decide_eq_false (fun h => h hfr) | exact decide_eq_false (fun h => h h0) | exact decide_eq_true hpz | exact decide_eq_false (by omega)) ?_
            refine W.skip ?_
            refine hK69 _ _ _ ?_
            refine W.region ?_
            refine O.ex (Ex.move rfl) rfl ?_
            refine O.ex (by first | exact Ex.addI rfl rfl | exact Ex.add rfl rfl rfl) rfl ?_
            refine O.ex (Ex.assign rfl) rfl ?_
            refine O.nil ?_
            exact ⟨(i + 1, tks rk t), ⟨rfl, rfl, rfl, rfl, rfl, trivial⟩, ⟨rfl, by dsimp only; omega, tks_ok hok2, hnx, Holds.to (by assumption)⟩, by dsimp only; omega⟩
          · refine W.exit ?_
            refine hK65 _ _ _ ?_
            refine W.seq (fun K72 hK72 => ?_)
            refine W.region ?_
            have hdr : (lst s).drop i = [] := List.drop_eq_nil_of_le (by omega)
            rw [hdr] at hlt2
            have ht0 : t = 0 := (lst_nil hok2.1).1 hlt2
            have hpz : ((pop t : Nat) : Int) = 0 := by rw [pop_len, hlt2]; rfl
            have hfz : flr rk t = (rk.length : Int) := by unfold flr; rw [if_pos ht0]
            refine O.ex (Ex.move rfl) rfl ?_
            refine O.callF Tryd.call16 rfl rfl (CT.mono (qLen_ct (rk := rk) (s := t) hok2.1 (Holds.to (by assumption))) ?_)
            rintro _ w ⟨rfl, H⟩
            refine O.ex (Ex.eqlI rfl rfl) rfl ?_
            refine O.ex (Ex.move rfl) rfl ?_
            refine O.known (t := 122) (c := true) rfl (by first | rfl | exact decide_eq_false (fun h => h rfl) | exact decide_eq_false (fun h => h hfin) | exact decide_eq_false (fun h => h hfr) | exact decide_eq_false (fun h => h h0) | exact decide_eq_true hpz | exact decide_eq_false (by omega)) ?_
            refine O.guard_t rfl rfl ?_
            refine O.ex (Ex.move rfl) rfl ?_
            refine O.guard_t rfl rfl ?_
            refine O.callF Tryd.call17 rfl rfl (CT.mono (qFloor_ct (rk := rk) (s := t) hT hok2.1 (Holds.to (by assumption))) ?_)
            rintro _ w ⟨rfl, H⟩
            refine O.guard_t rfl rfl ?_
            refine O.ex (Ex.move rfl) rfl ?_
            refine O.guard_t rfl rfl ?_
            refine O.ex (by first | exact Ex.lenR Tryd.runUnderlying22 rfl | exact Ex.lenIn Tryd.runUnderlying22 rfl | exact Ex.lenL Tryd.runUnderlying22 rfl | exact Ex.len rfl Tryd.runUnderlying22 rfl) rfl ?_
            refine O.guard_t rfl rfl ?_
            refine O.ex (Ex.eqlI rfl rfl) rfl ?_
            refine O.ex (Ex.pick_t rfl rfl) rfl ?_
            first | refine O.storeP Tryd.sizeOf4 rfl rfl (fun w H => ?_) | refine O.storeR Tryd.sizeOf4 rfl rfl (fun w H => ?_)
            refine O.nil ?_
            refine hK72 _ _ _ ?_
            refine W.ret ?_
            try dsimp only [thenQ, blockQ, retQ]
            first | refine ⟨_, ⟨_, _, _, rfl, rfl, loadVar_one Tryd.isAgg4, rfl⟩, ?_⟩ | (refine retD_mark ?_; intro w H; refine ⟨_, ⟨_, _, _, rfl, rfl, loadVar_one Tryd.isAgg4, rfl⟩, ?_⟩) | (refine retD_mark2 ?_; intro w H; refine ⟨_, ⟨_, _, _, rfl, rfl, loadVar_one Tryd.isAgg4, rfl⟩, ?_⟩)
            exact ⟨by first | rfl | exact congrArg Value.bool (decide_eq_true hfz), Holds.base_below (L := []) (Holds.to (by assumption))⟩
theorem markGoes_row {w0 : World} {rv pv : Value} {rk ps : List Int} {m : Int} (hT : TabAt w0) (hx : SlIn w0 1 (fun s : Int => [.int .i64 s]) rv rk) (hg : ∀ x ∈ rk, (Lit.int .i64 x).wf = true) (hlr : rk.length ≤ maxLen) (hx2 : SlIn w0 1 (fun s : Int => [.int .i64 s]) pv ps) (hg2 : ∀ x ∈ ps, (Lit.int .i64 x).wf = true) (hlp : ps.length ≤ maxLen) (hm : (Lit.int .u8 m).wf = true) :
    CT Tryd.prog 3 [rv, pv, .int .u8 m] w0 fun u w' => u = .bool true ∧ RowKit.Below w0.heap.size w0 w' :=
  markGoes_ct hT hx (by unfold maxLen at hlr; omega) hx2 (by unfold maxLen at hlp; omega) hm
end Go.Proofs.YtgbhccpjpimgfaaDoor
