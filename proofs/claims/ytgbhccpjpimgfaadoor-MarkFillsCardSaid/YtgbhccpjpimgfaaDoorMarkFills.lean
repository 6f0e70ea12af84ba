import Derived.Test.YtgbhccpjpimgfaaDoorMark2
import Derived.Test.YtgbhccpjpimgfaaDoorMarkLaw2
namespace Go.Proofs.YtgbhccpjpimgfaaDoor
open Go.Rr Go Mq
set_option linter.unusedVariables false
set_option maxHeartbeats 2000000 in
theorem markFills_ct {w0 : World} {rv : Value} {rk : List Int} (hT : TabAt w0) (hx : SlIn w0 1 (fun s : Int => [.int .i64 s]) rv rk) (hlr : rk.length ≤ 9223372036854775807) :
    CT Tryd.prog 6 [rv] w0 fun u w' => u = .bool true ∧ RowKit.Below w0.heap.size w0 w' := by
  have H := Holds.base_refl w0
  refine CT.enter (N := 93) Tryd.func6 rfl rfl rfl rfl ?_
  refine W.seq (fun K0 hK0 => ?_)
  refine W.region ?_
  refine O.ex (Ex.assign rfl) rfl ?_
  refine O.nil ?_
  refine hK0 _ _ _ ?_
  refine W.seq (fun K1 hK1 => ?_)
  refine W.seq (fun K2 hK2 => ?_)
  refine W.region ?_
  refine O.callF Tryd.call7 rfl rfl (CT.mono (awake18_ct hT (Holds.to (by assumption))) ?_)
  rintro _ w ⟨rfl, H⟩
  refine O.ex (by first | exact Ex.notD rfl | exact Ex.not rfl) rfl ?_
  refine O.nil ?_
  refine hK2 _ _ _ ?_
  refine W.known_f rfl (by first | rfl | exact decide_eq_false (fun h => h h0) | exact decide_eq_false (fun h => h hfl) | exact decide_eq_false (fun h => h hpp) | exact decide_eq_false (fun h => h hrx) | exact hhas | exact decide_eq_false (fun h => h hcode) | exact decide_eq_false (by omega)) ?_
  refine W.skip ?_
  refine hK1 _ _ _ ?_
  refine W.seq (fun K3 hK3 => ?_)
  refine W.seq (fun K4 hK4 => ?_)
  refine W.region ?_
  refine O.ex (Ex.move rfl) rfl ?_
  refine O.ex (by first | exact Ex.lenR Tryd.runUnderlying22 rfl | exact Ex.lenIn Tryd.runUnderlying22 rfl | exact Ex.lenL Tryd.runUnderlying22 rfl | exact Ex.len rfl Tryd.runUnderlying22 rfl) rfl ?_
  refine O.ex (Ex.gtr rfl rfl) rfl ?_
  refine O.ex (Ex.move rfl) rfl ?_
  first | refine O.split_p (t := 13) rfl (fun hbig => ?_) (fun hle => ?_) | refine O.split (t := 13) rfl (fun hbig => ?_) (fun hle => ?_)
  · refine O.guard_f rfl rfl rfl rfl ?_
    refine O.guard_f rfl rfl rfl rfl ?_
    refine O.guard_f rfl rfl rfl rfl ?_
    refine O.ex (Ex.pick_t rfl rfl) rfl ?_
    refine O.nil ?_
    refine hK4 _ _ _ ?_
    refine W.cond_t rfl ?_
    refine W.seq (fun K5 hK5 => ?_)
    refine W.region ?_
    refine O.ex (Ex.assign rfl) rfl ?_
    refine O.nil ?_
    refine hK5 _ _ _ ?_
    refine W.ret ?_
    try dsimp only [thenQ, blockQ, retQ]
    first | refine ⟨_, ⟨_, _, rfl, rfl, rfl⟩, ?_⟩ | (refine retD_mark ?_; intro w H; refine ⟨_, ⟨_, _, rfl, rfl, rfl⟩, ?_⟩) | (refine retD_mark2 ?_; intro w H; refine ⟨_, ⟨_, _, rfl, rfl, rfl⟩, ?_⟩)
    exact ⟨by first | rfl | exact congrArg Value.bool (decide_eq_true (by omega)), Holds.base_below (L := []) (Holds.to (by assumption))⟩
  · refine O.guard_t rfl rfl ?_
    refine O.ex (Ex.move rfl) rfl ?_
    refine O.guard_t rfl rfl ?_
    refine O.callF Tryd.call8 rfl rfl (CT.mono (may_ct hx (Holds.to (by assumption)) hlr) ?_)
    rintro _ w ⟨rfl, H⟩
    refine O.guard_t rfl rfl ?_
    refine O.ex (by first | exact Ex.notD rfl | exact Ex.not rfl) rfl ?_
    refine O.ex (Ex.pick_f rfl rfl) rfl ?_
    refine O.nil ?_
    refine hK4 _ _ _ ?_
    first | refine W.cond_p rfl (fun hno => ?_) (fun hyes => ?_) | refine W.cond_b rfl (fun hno => ?_) (fun hyes => ?_)
    · refine W.seq (fun K6 hK6 => ?_)
      refine W.region ?_
      refine O.ex (Ex.assign rfl) rfl ?_
      refine O.nil ?_
      refine hK6 _ _ _ ?_
      refine W.ret ?_
      try dsimp only [thenQ, blockQ, retQ]
      first | refine ⟨_, ⟨_, _, rfl, rfl, rfl⟩, ?_⟩ | (refine retD_mark ?_; intro w H; refine ⟨_, ⟨_, _, rfl, rfl, rfl⟩, ?_⟩) | (refine retD_mark2 ?_; intro w H; refine ⟨_, ⟨_, _, rfl, rfl, rfl⟩, ?_⟩)
      exact ⟨by first | rfl | exact congrArg Value.bool (decide_eq_true (by omega)), Holds.base_below (L := []) (Holds.to (by assumption))⟩
    · refine W.skip ?_
      refine hK3 _ _ _ ?_
      refine W.seq (fun K7 hK7 => ?_)
      refine W.region ?_
      refine O.ex (Ex.move rfl) rfl ?_
      refine O.callF Tryd.call9 rfl rfl (CT.mono (mnewI_ct hx (Holds.to (by assumption)) hlr) ?_)
      rintro _ w (⟨hr, q, rfl, H⟩ | ⟨hn, -⟩)
      rotate_left
      · exact absurd (Decidable.not_not.1 hyes) hn
      obtain ⟨hr, hpos⟩ := hr
      have h24 := hr.1
      refine O.ex (Ex.move rfl) rfl ?_
      refine O.ex (Ex.extract rfl rfl) rfl ?_
      refine O.ex (Ex.extract rfl rfl) rfl ?_
      refine O.ex (Ex.assign rfl) rfl ?_
      refine O.ex (Ex.assign rfl) rfl ?_
      refine O.nil ?_
      refine hK7 _ _ _ ?_
      refine W.seq (fun K8 hK8 => ?_)
      refine W.seq (fun K9 hK9 => ?_)
      refine W.region ?_
      refine O.ex (Ex.move rfl) rfl ?_
      refine O.ex (Ex.nilEq Tryd.runUnderlying25 rfl rfl) rfl ?_
      refine O.nil ?_
      refine hK9 _ _ _ ?_
      refine W.known_f rfl (by first | rfl | exact decide_eq_false (fun h => h h0) | exact decide_eq_false (fun h => h hfl) | exact decide_eq_false (fun h => h hpp) | exact decide_eq_false (fun h => h hrx) | exact hhas | exact decide_eq_false (fun h => h hcode) | exact decide_eq_false (by omega)) ?_
      refine W.skip ?_
      refine hK8 _ _ _ ?_
      refine W.seq (fun K10 hK10 => ?_)
      refine W.region ?_
      refine O.ex (Ex.move rfl) rfl ?_
      refine O.callF Tryd.call24 rfl rfl (CT.mono (qFill_ct (rk := rk) (s := 0) (Holds.to (by assumption))) ?_)
      rintro _ w ⟨-, H⟩
      refine O.nil ?_
      refine hK10 _ _ _ ?_
      refine W.seq (fun K11 hK11 => ?_)
      refine W.seq (fun K12 hK12 => ?_)
      refine W.region ?_
      refine O.ex (Ex.assign rfl) rfl ?_
      refine O.nil ?_
      refine hK12 _ _ _ ?_
      refine W.block ?_
      refine W.loop (σ := Nat × Nat) (fun z => [(0, rv), (3, .pointer (some ⟨q, 0, none⟩)), (5, .int .i64 (z.1 : Int))]) (fun z ds w => ds = [] ∧ z.1 ≤ rk.length ∧ SOk rk.length z.2 ∧ lst z.2 = (List.range rk.length).drop z.1 ∧ Holds w [base w0, Mk q rk z.2]) (fun z => rk.length - z.1) (0, belN (rk.length : Int)) ⟨rfl, rfl, rfl, trivial⟩ ⟨rfl, by dsimp only; omega, full_ok hr, lst_full hr, Holds.to (by assumption)⟩ ?_
      clear H
      rintro ⟨i, s⟩ _ w ⟨rfl, hi, hok, hls, H⟩
      dsimp only at hi hok hls H ⊢
      refine W.seq (fun K13 hK13 => ?_)
      refine W.seq (fun K14 hK14 => ?_)
      refine W.region ?_
      refine O.ex (Ex.move rfl) rfl ?_
      refine O.ex (Ex.move rfl) rfl ?_
      refine O.ex (by first | exact Ex.lenR Tryd.runUnderlying22 rfl | exact Ex.lenIn Tryd.runUnderlying22 rfl | exact Ex.lenL Tryd.runUnderlying22 rfl | exact Ex.len rfl Tryd.runUnderlying22 rfl) rfl ?_
      refine O.ex (Ex.lss rfl rfl) rfl ?_
      refine O.nil ?_
      refine hK14 _ _ _ ?_
      first | refine W.cond_p rfl (fun hlt => ?_) (fun hge => ?_) | refine W.cond_b rfl (fun hlt => ?_) (fun hge => ?_)
      · refine W.skip ?_
        refine hK13 _ _ _ ?_
        refine W.seq (fun K15 hK15 => ?_)
        refine W.block ?_
        refine W.seq (fun K16 hK16 => ?_)
        refine W.seq (fun K17 hK17 => ?_)
        refine W.region ?_
        obtain ⟨h0, hf, hp, hnx⟩ := from_fst hok (k := i) (by omega) hls
        have hfl : flr rk s = (i : Int) := by unfold flr; rw [if_neg h0, hf]
        have hpp : ((pop s : Nat) : Int) = (rk.length : Int) - (i : Int) := by rw [hp]; omega
        obtain ⟨hx0, hx1, hx2⟩ := frs_is hr hok h0
        have hxn : (frs rk s).toNat < rk.length := by omega
        have hrx : rk.getD (frs rk s).toNat default = (i : Int) := by rw [hx2, hf]
        obtain ⟨hcode, hset⟩ := put_back hr hok h0
        have hok1 := tks_ok hok
        have hhas : hasV rk (tks rk s) (frs rk s) = false := by
          unfold hasV
          rw [(pcode_zero hcode).2.2, Bool.and_false]
        refine O.ex (Ex.move rfl) rfl ?_
        refine O.callF Tryd.call17 rfl rfl (CT.mono (qFloor_ct (rk := rk) (s := s) hT hok.1 (Holds.to (by assumption))) ?_)
        rintro _ w ⟨rfl, H⟩
        refine O.ex (Ex.move rfl) rfl ?_
        refine O.ex (Ex.neqI rfl rfl) rfl ?_
        refine O.ex (Ex.move rfl) rfl ?_
        refine O.known (t := 37) (c := false) rfl (by first | rfl | exact decide_eq_false (fun h => h h0) | exact decide_eq_false (fun h => h hfl) | exact decide_eq_false (fun h => h hpp) | exact decide_eq_false (fun h => h hrx) | exact hhas | exact decide_eq_false (fun h => h hcode) | exact decide_eq_false (by omega)) ?_
        refine O.guard_t rfl rfl ?_
        refine O.ex (Ex.move rfl) rfl ?_
        refine O.guard_t rfl rfl ?_
        refine O.callF Tryd.call16 rfl rfl (CT.mono (qLen_ct (rk := rk) (s := s) hok.1 (Holds.to (by assumption))) ?_)
        rintro _ w ⟨rfl, H⟩
        refine O.guard_t rfl rfl ?_
        refine O.ex (Ex.move rfl) rfl ?_
        refine O.guard_t rfl rfl ?_
        refine O.ex (by first | exact Ex.lenR Tryd.runUnderlying22 rfl | exact Ex.lenIn Tryd.runUnderlying22 rfl | exact Ex.lenL Tryd.runUnderlying22 rfl | exact Ex.len rfl Tryd.runUnderlying22 rfl) rfl ?_
        refine O.guard_t rfl rfl ?_
        refine O.ex (Ex.move rfl) rfl ?_
        refine O.guard_t rfl rfl ?_
        refine O.ex (by first | exact Ex.subI rfl rfl | exact Ex.sub rfl rfl rfl) rfl ?_
        refine O.guard_t rfl rfl ?_
        refine O.ex (Ex.neqI rfl rfl) rfl ?_
        refine O.ex (Ex.pick_f rfl rfl) rfl ?_
        refine O.nil ?_
        refine hK17 _ _ _ ?_
        refine W.known_f rfl (by first | rfl | exact decide_eq_false (fun h => h h0) | exact decide_eq_false (fun h => h hfl) | exact decide_eq_false (fun h => h hpp) | exact decide_eq_false (fun h => h hrx) | exact hhas | exact decide_eq_false (fun h => h hcode) | exact decide_eq_false (by omega)) ?_
        refine W.skip ?_
        refine hK16 _ _ _ ?_
        refine W.seq (fun K18 hK18 => ?_)
        refine W.region ?_
        refine O.ex (Ex.move rfl) rfl ?_
        refine O.callF Tryd.call15 rfl rfl (CT.mono (qTake_ct (rk := rk) (s := s) hT hr hok (Holds.to (by assumption))) ?_)
        rintro _ w ⟨rfl, H⟩
        refine O.ex (Ex.move rfl) rfl ?_
        refine O.ex (Ex.extract rfl rfl) rfl ?_
        refine O.ex (Ex.extract rfl rfl) rfl ?_
        refine O.ex (Ex.assign rfl) rfl ?_
        refine O.ex (Ex.assign rfl) rfl ?_
        refine O.nil ?_
        refine hK18 _ _ _ ?_
        refine W.seq (fun K19 hK19 => ?_)
        refine W.seq (fun K20 hK20 => ?_)
        refine W.region ?_
        refine O.ex (Ex.move rfl) rfl ?_
        refine O.ex (by first | exact Ex.notD rfl | exact Ex.not rfl) rfl ?_
        refine O.ex (Ex.move rfl) rfl ?_
        refine O.known (t := 53) (c := false) rfl (by first | rfl | exact decide_eq_false (fun h => h h0) | exact decide_eq_false (fun h => h hfl) | exact decide_eq_false (fun h => h hpp) | exact decide_eq_false (fun h => h hrx) | exact hhas | exact decide_eq_false (fun h => h hcode) | exact decide_eq_false (by omega)) ?_
        refine O.guard_t rfl rfl ?_
        refine O.ex (Ex.move rfl) rfl ?_
        refine O.guard_t rfl rfl ?_
        refine O.ex (Ex.lss rfl rfl) rfl ?_
        refine O.ex (Ex.pick_f rfl rfl) rfl ?_
        refine O.ex (Ex.move rfl) rfl ?_
        refine O.known (t := 57) (c := false) rfl (by first | rfl | exact decide_eq_false (fun h => h h0) | exact decide_eq_false (fun h => h hfl) | exact decide_eq_false (fun h => h hpp) | exact decide_eq_false (fun h => h hrx) | exact hhas | exact decide_eq_false (fun h => h hcode) | exact decide_eq_false (by omega)) ?_
        refine O.guard_t rfl rfl ?_
        refine O.ex (Ex.move rfl) rfl ?_
        refine O.guard_t rfl rfl ?_
        refine O.ex (Ex.move rfl) rfl ?_
        refine O.guard_t rfl rfl ?_
        refine O.ex (by first | exact Ex.lenR Tryd.runUnderlying22 rfl | exact Ex.lenIn Tryd.runUnderlying22 rfl | exact Ex.lenL Tryd.runUnderlying22 rfl | exact Ex.len rfl Tryd.runUnderlying22 rfl) rfl ?_
        refine O.guard_t rfl rfl ?_
        refine O.ex (Ex.geq rfl rfl) rfl ?_
        refine O.ex (Ex.pick_f rfl rfl) rfl ?_
        refine O.ex (Ex.move rfl) rfl ?_
        refine O.known (t := 63) (c := false) rfl (by first | rfl | exact decide_eq_false (fun h => h h0) | exact decide_eq_false (fun h => h hfl) | exact decide_eq_false (fun h => h hpp) | exact decide_eq_false (fun h => h hrx) | exact hhas | exact decide_eq_false (fun h => h hcode) | exact decide_eq_false (by omega)) ?_
        refine O.guard_t rfl rfl ?_
        refine O.ex (Ex.move rfl) rfl ?_
        refine O.guard_t rfl rfl ?_
        refine O.ex (Ex.move rfl) rfl ?_
        refine O.guard_t rfl rfl ?_
        refine O.ex (by first | exact Ex.idxR Tryd.runUnderlying22 Tryd.sizeOf3 rfl rfl | exact Ex.idxIn Tryd.runUnderlying22 Tryd.sizeOf3 rfl rfl | exact Ex.idxS Tryd.runUnderlying22 Tryd.sizeOf3 rfl rfl | exact Ex.idx Tryd.runUnderlying22 Tryd.sizeOf3 rfl rfl (by omega) (by omega)) rfl ?_
        refine O.guard_t rfl rfl ?_
        refine O.ex (by first | exact Ex.loadP Tryd.isAgg3 rfl | exact Ex.loadR Tryd.isAgg3 rfl | exact Ex.loadIn1 Tryd.isAgg3 rfl (Holds.to (by assumption))) rfl ?_
        refine O.guard_t rfl rfl ?_
        refine O.ex (Ex.move rfl) rfl ?_
        refine O.guard_t rfl rfl ?_
        refine O.ex (Ex.neqI rfl rfl) rfl ?_
        refine O.ex (Ex.pick_f rfl rfl) rfl ?_
        refine O.ex (Ex.move rfl) rfl ?_
        refine O.known (t := 71) (c := false) rfl (by first | rfl | exact decide_eq_false (fun h => h h0) | exact decide_eq_false (fun h => h hfl) | exact decide_eq_false (fun h => h hpp) | exact decide_eq_false (fun h => h hrx) | exact hhas | exact decide_eq_false (fun h => h hcode) | exact decide_eq_false (by omega)) ?_
        refine O.guard_t rfl rfl ?_
        refine O.ex (Ex.move rfl) rfl ?_
        refine O.guard_t rfl rfl ?_
        refine O.ex (Ex.move rfl) rfl ?_
        refine O.guard_t rfl rfl ?_
        refine O.callF Tryd.call26 rfl rfl (CT.mono (qHas_ct (rk := rk) (s := tks rk s) hr hok1.1 (Holds.to (by assumption))) ?_)
        rintro _ w ⟨rfl, H⟩
        refine O.ex (Ex.pick_f rfl rfl) rfl ?_
        refine O.ex (Ex.move rfl) rfl ?_
        refine O.known (t := 76) (c := false) rfl (by first | rfl | exact decide_eq_false (fun h => h h0) | exact decide_eq_false (fun h => h hfl) | exact decide_eq_false (fun h => h hpp) | exact decide_eq_false (fun h => h hrx) | exact hhas | exact decide_eq_false (fun h => h hcode) | exact decide_eq_false (by omega)) ?_
        refine O.guard_t rfl rfl ?_
        refine O.ex (Ex.move rfl) rfl ?_
        refine O.guard_t rfl rfl ?_
        refine O.ex (Ex.move rfl) rfl ?_
        refine O.guard_t rfl rfl ?_
        refine O.callF Tryd.call11 rfl rfl (CT.mono (qPut_ct (rk := rk) (s := tks rk s) hr hok1.1 (Holds.to (by assumption))) ?_)
        rintro _ w ⟨rfl, H⟩
        rw [hset] at H
        refine O.guard_t rfl rfl ?_
        refine O.ex (Ex.neqI rfl rfl) rfl ?_
        refine O.ex (Ex.pick_f rfl rfl) rfl ?_
        refine O.ex (Ex.move rfl) rfl ?_
        refine O.known (t := 82) (c := false) rfl (by first | rfl | exact decide_eq_false (fun h => h h0) | exact decide_eq_false (fun h => h hfl) | exact decide_eq_false (fun h => h hpp) | exact decide_eq_false (fun h => h hrx) | exact hhas | exact decide_eq_false (fun h => h hcode) | exact decide_eq_false (by omega)) ?_
        refine O.guard_t rfl rfl ?_
        refine O.ex (Ex.move rfl) rfl ?_
        refine O.guard_t rfl rfl ?_
        refine O.callF Tryd.call17 rfl rfl (CT.mono (qFloor_ct (rk := rk) (s := s) hT hok.1 (Holds.to (by assumption))) ?_)
        rintro _ w ⟨rfl, H⟩
        refine O.guard_t rfl rfl ?_
        refine O.ex (Ex.move rfl) rfl ?_
        refine O.guard_t rfl rfl ?_
        refine O.ex (Ex.neqI rfl rfl) rfl ?_
        refine O.ex (Ex.pick_f rfl rfl) rfl ?_
        refine O.nil ?_
        refine hK20 _ _ _ ?_
        refine W.known_f rfl (by first | rfl | exact decide_eq_false (fun h => h h0) | exact decide_eq_false (fun h => h hfl) | exact decide_eq_false (fun h => h hpp) | exact decide_eq_false (fun h => h hrx) | exact hhas | exact decide_eq_false (fun h => h hcode) | exact decide_eq_false (by omega)) ?_
        refine W.skip ?_
        refine hK19 _ _ _ ?_
        refine W.region ?_
        refine O.ex (Ex.move rfl) rfl ?_
        refine O.callF Tryd.call15 rfl rfl (CT.mono (qTake_ct (rk := rk) (s := s) hT hr hok (Holds.to (by assumption))) ?_)
        rintro _ w ⟨-, H⟩
        refine O.nil ?_
        refine hK15 _ _ _ ?_
        refine W.region ?_
        refine O.ex (Ex.move rfl) rfl ?_
        refine O.ex (by first | exact Ex.addI rfl rfl | exact Ex.add rfl rfl rfl) rfl ?_
        refine O.ex (Ex.assign rfl) rfl ?_
        refine O.nil ?_
        exact ⟨(i + 1, tks rk s), ⟨rfl, rfl, rfl, trivial⟩, ⟨rfl, by dsimp only; omega, hok1, hnx, Holds.to (by assumption)⟩, by dsimp only; omega⟩
      · refine W.exit ?_
        refine hK11 _ _ _ ?_
        refine W.seq (fun K21 hK21 => ?_)
        refine W.region ?_
        have hz : pop s = 0 := by rw [pop_len, hls, List.length_drop, List.length_range]; omega
        refine O.ex (Ex.move rfl) rfl ?_
        refine O.callF Tryd.call16 rfl rfl (CT.mono (qLen_ct (rk := rk) (s := s) hok.1 (Holds.to (by assumption))) ?_)
        rintro _ w ⟨rfl, H⟩
        refine O.ex (Ex.eqlI rfl rfl) rfl ?_
        refine O.ex (Ex.assign rfl) rfl ?_
        refine O.nil ?_
        refine hK21 _ _ _ ?_
        refine W.ret ?_
        try dsimp only [thenQ, blockQ, retQ]
        first | refine ⟨_, ⟨_, _, rfl, rfl, rfl⟩, ?_⟩ | (refine retD_mark ?_; intro w H; refine ⟨_, ⟨_, _, rfl, rfl, rfl⟩, ?_⟩) | (refine retD_mark2 ?_; intro w H; refine ⟨_, ⟨_, _, rfl, rfl, rfl⟩, ?_⟩)
        exact ⟨by first | rfl | exact congrArg Value.bool (decide_eq_true (by omega)), Holds.base_below (L := []) (Holds.to (by assumption))⟩
theorem markFills_row {w0 : World} {rv : Value} {rk : List Int} (hT : TabAt w0) (hx : SlIn w0 1 (fun s : Int => [.int .i64 s]) rv rk) (hg : ∀ x ∈ rk, (Lit.int .i64 x).wf = true) (hlr : rk.length ≤ maxLen) :
    CT Tryd.prog 6 [rv] w0 fun u w' => u = .bool true ∧ RowKit.Below w0.heap.size w0 w' :=
  markFills_ct hT hx (by unfold maxLen at hlr; omega)
end Go.Proofs.YtgbhccpjpimgfaaDoor
