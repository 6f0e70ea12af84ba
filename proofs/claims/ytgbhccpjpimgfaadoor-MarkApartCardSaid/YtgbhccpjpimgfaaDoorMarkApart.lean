import Derived.Test.YtgbhccpjpimgfaaDoorMark2
import Derived.Test.YtgbhccpjpimgfaaDoorMarkLaw2
namespace Go.Proofs.YtgbhccpjpimgfaaDoor
open Go.Rr Go Mq
set_option linter.unusedVariables false
set_option maxHeartbeats 2000000 in
theorem markApart_ct {w0 : World} {rv pv : Value} {rk ps : List Int} {v : Int} (hT : TabAt w0) (hx : SlIn w0 1 (fun s : Int => [.int .i64 s]) rv rk) (hlr : rk.length ≤ 9223372036854775807) (hx2 : SlIn w0 1 (fun s : Int => [.int .i64 s]) pv ps) (hlp : ps.length ≤ 9223372036854775807) :
    CT Tryd.prog 4 [rv, pv, .int .i64 v] w0 fun u w' => u = .bool true ∧ RowKit.Below w0.heap.size w0 w' := by
  have H := Holds.base_refl w0
  refine CT.enter (N := 128) Tryd.func4 rfl rfl rfl rfl ?_
  refine W.seq (fun K0 hK0 => ?_)
  refine W.region ?_
  refine O.ex (Ex.assign rfl) rfl ?_
  refine O.nil ?_
  refine hK0 _ _ _ ?_
  refine W.seq (fun K1 hK1 => ?_)
  refine W.seq (fun K2 hK2 => ?_)
  refine W.region ?_
  refine O.callF Tryd.call7 rfl rfl (CT.mono (awake18_ct hT (Holds.to (by assumption))) ?_)
  rintro _ w ⟨rfl, H⟩
  refine O.ex (by first | exact Ex.notD rfl | exact Ex.not rfl) rfl ?_
  refine O.nil ?_
  refine hK2 _ _ _ ?_
  refine W.known_f rfl (by first | rfl | exact decide_eq_true he | exact decide_eq_false he | exact decide_eq_false (fun h => h he) | exact decide_eq_false (fun h => h hS) | exact decide_eq_true hz | exact hin | exact decide_eq_true hout | exact decide_eq_true hcode | exact decide_eq_true hback) ?_
  refine W.skip ?_
  refine hK1 _ _ _ ?_
  refine W.seq (fun K3 hK3 => ?_)
  refine W.seq (fun K4 hK4 => ?_)
  refine W.region ?_
  refine O.ex (Ex.move rfl) rfl ?_
  refine O.ex (by first | exact Ex.lenR Tryd.runUnderlying22 rfl | exact Ex.lenIn Tryd.runUnderlying22 rfl | exact Ex.lenL Tryd.runUnderlying22 rfl | exact Ex.len rfl Tryd.runUnderlying22 rfl) rfl ?_
  refine O.ex (Ex.gtr rfl rfl) rfl ?_
  refine O.ex (Ex.move rfl) rfl ?_
  first | refine O.split_p (t := 21) rfl (fun hbig => ?_) (fun hle => ?_) | refine O.split (t := 21) rfl (fun hbig => ?_) (fun hle => ?_)
  · refine O.guard_f rfl rfl rfl rfl ?_
    refine O.guard_f rfl rfl rfl rfl ?_
    refine O.guard_f rfl rfl rfl rfl ?_
    refine O.ex (Ex.pick_t rfl rfl) rfl ?_
    refine O.nil ?_
    refine hK4 _ _ _ ?_
    refine W.cond_t rfl ?_
    refine W.seq (fun K5 hK5 => ?_)
    refine W.region ?_
    refine O.ex (Ex.assign rfl) rfl ?_
    refine O.nil ?_
    refine hK5 _ _ _ ?_
    refine W.ret ?_
    try dsimp only [thenQ, blockQ, retQ]
    first | refine ⟨_, ⟨_, _, rfl, rfl, rfl⟩, ?_⟩ | (refine retD_mark ?_; intro w H; refine ⟨_, ⟨_, _, rfl, rfl, rfl⟩, ?_⟩) | (refine retD_mark2 ?_; intro w H; refine ⟨_, ⟨_, _, rfl, rfl, rfl⟩, ?_⟩)
    exact ⟨by first | rfl | exact congrArg Value.bool (decide_eq_true hz2) | exact congrArg Value.bool (decide_eq_true (by rw [hpop])), Holds.base_below (L := []) (Holds.to (by assumption))⟩
  · refine O.guard_t rfl rfl ?_
    refine O.ex (Ex.move rfl) rfl ?_
    refine O.guard_t rfl rfl ?_
    refine O.callF Tryd.call8 rfl rfl (CT.mono (may_ct hx (Holds.to (by assumption)) hlr) ?_)
    rintro _ w ⟨rfl, H⟩
    refine O.guard_t rfl rfl ?_
    refine O.ex (by first | exact Ex.notD rfl | exact Ex.not rfl) rfl ?_
    refine O.ex (Ex.pick_f rfl rfl) rfl ?_
    refine O.nil ?_
    refine hK4 _ _ _ ?_
    first | refine W.cond_p rfl (fun hno => ?_) (fun hyes => ?_) | refine W.cond_b rfl (fun hno => ?_) (fun hyes => ?_)
    · refine W.seq (fun K6 hK6 => ?_)
      refine W.region ?_
      refine O.ex (Ex.assign rfl) rfl ?_
      refine O.nil ?_
      refine hK6 _ _ _ ?_
      refine W.ret ?_
      try dsimp only [thenQ, blockQ, retQ]
      first | refine ⟨_, ⟨_, _, rfl, rfl, rfl⟩, ?_⟩ | (refine retD_mark ?_; intro w H; refine ⟨_, ⟨_, _, rfl, rfl, rfl⟩, ?_⟩) | (refine retD_mark2 ?_; intro w H; refine ⟨_, ⟨_, _, rfl, rfl, rfl⟩, ?_⟩)
      exact ⟨by first | rfl | exact congrArg Value.bool (decide_eq_true hz2) | exact congrArg Value.bool (decide_eq_true (by rw [hpop])), Holds.base_below (L := []) (Holds.to (by assumption))⟩
    · refine W.skip ?_
      refine hK3 _ _ _ ?_
      refine W.seq (fun K7 hK7 => ?_)
      refine W.region ?_
      refine O.ex (Ex.move rfl) rfl ?_
      refine O.callF Tryd.call9 rfl rfl (CT.mono (mnewI_ct hx (Holds.to (by assumption)) hlr) ?_)
      rintro _ w (⟨hr, q, rfl, H⟩ | ⟨hn, -⟩)
      rotate_left
      · exact absurd (Decidable.not_not.1 hyes) hn
      obtain ⟨hr, hpos⟩ := hr
      have h24 := hr.1
      refine O.ex (Ex.move rfl) rfl ?_
      refine O.ex (Ex.extract rfl rfl) rfl ?_
      refine O.ex (Ex.extract rfl rfl) rfl ?_
      refine O.ex (Ex.assign rfl) rfl ?_
      refine O.ex (Ex.assign rfl) rfl ?_
      refine O.nil ?_
      refine hK7 _ _ _ ?_
      refine W.seq (fun K8 hK8 => ?_)
      refine W.seq (fun K9 hK9 => ?_)
      refine W.region ?_
      refine O.ex (Ex.move rfl) rfl ?_
      refine O.ex (Ex.nilEq Tryd.runUnderlying25 rfl rfl) rfl ?_
      refine O.nil ?_
      refine hK9 _ _ _ ?_
      refine W.known_f rfl (by first | rfl | exact decide_eq_true he | exact decide_eq_false he | exact decide_eq_false (fun h => h he) | exact decide_eq_false (fun h => h hS) | exact decide_eq_true hz | exact hin | exact decide_eq_true hout | exact decide_eq_true hcode | exact decide_eq_true hback) ?_
      refine W.skip ?_
      refine hK8 _ _ _ ?_
      refine W.seq (fun K10 hK10 => ?_)
      refine W.region ?_
      refine O.ex (Ex.move rfl) rfl ?_
      refine O.callF Tryd.call10 rfl rfl (CT.mono (rqNew_ct h24 hx (Holds.to (by assumption))) ?_)
      rintro _ w ⟨r, rfl, H⟩
      refine O.ex (Ex.assign rfl) rfl ?_
      refine O.nil ?_
      refine hK10 _ _ _ ?_
      refine W.seq (fun K11 hK11 => ?_)
      refine W.seq (fun K12 hK12 => ?_)
      refine W.region ?_
      refine O.ex (Ex.assign rfl) rfl ?_
      refine O.nil ?_
      refine hK12 _ _ _ ?_
      refine W.block ?_
      refine W.loop (σ := Nat × Nat) (fun z => [(0, rv), (1, pv), (2, .int .i64 v), (7, .pointer (some ⟨q, 0, none⟩)), (9, .pointer (some ⟨r, 0, none⟩)), (10, .int .i64 (z.1 : Int))]) (fun z ds w => ds = [] ∧ SOk rk.length z.2 ∧ Holds w [base w0, Mk q rk z.2, Rq r rk z.2]) (fun z => ps.length - z.1) (0, 0) ⟨rfl, rfl, rfl, rfl, rfl, rfl, trivial⟩ ⟨rfl, SOk.zero _, Holds.to (by assumption)⟩ ?_
      clear H
      rintro ⟨i, s⟩ _ w ⟨rfl, hok, H⟩
      dsimp only at hok H ⊢
      refine W.seq (fun K13 hK13 => ?_)
      refine W.seq (fun K14 hK14 => ?_)
      refine W.region ?_
      refine O.ex (Ex.move rfl) rfl ?_
      refine O.ex (Ex.move rfl) rfl ?_
      refine O.ex (by first | exact Ex.lenR Tryd.runUnderlying22 rfl | exact Ex.lenIn Tryd.runUnderlying22 rfl | exact Ex.lenL Tryd.runUnderlying22 rfl | exact Ex.len rfl Tryd.runUnderlying22 rfl) rfl ?_
      refine O.ex (Ex.lss rfl rfl) rfl ?_
      refine O.ex (Ex.move rfl) rfl ?_
      first | refine O.split_p (t := 39) rfl (fun hlt => ?_) (fun hge => ?_) | refine O.split (t := 39) rfl (fun hlt => ?_) (fun hge => ?_)
      · refine O.guard_t rfl rfl ?_
        refine O.ex (Ex.move rfl) rfl ?_
        refine O.guard_t rfl rfl ?_
        refine O.ex (Ex.lss rfl rfl) rfl ?_
        refine O.ex (Ex.pick_t rfl rfl) rfl ?_
        refine O.nil ?_
        refine hK14 _ _ _ ?_
        first | refine W.cond_p rfl (fun h100 => ?_) (fun h100' => ?_) | refine W.cond_b rfl (fun h100 => ?_) (fun h100' => ?_)
        · refine W.skip ?_
          refine hK13 _ _ _ ?_
          refine W.seq (fun K15 hK15 => ?_)
          refine W.block ?_
          refine W.seq (fun K16 hK16 => ?_)
          refine W.region ?_
          have hi0 : (0 : Int) ≤ (i : Int) := by omega
          refine O.ex (Ex.move rfl) rfl ?_
          refine O.ex (Ex.move rfl) rfl ?_
          refine O.ex (Ex.move rfl) rfl ?_
          refine O.ex (by first | exact Ex.idxR Tryd.runUnderlying22 Tryd.sizeOf3 rfl rfl | exact Ex.idxIn Tryd.runUnderlying22 Tryd.sizeOf3 rfl rfl | exact Ex.idxS Tryd.runUnderlying22 Tryd.sizeOf3 rfl rfl | exact Ex.idx Tryd.runUnderlying22 Tryd.sizeOf3 rfl rfl (by omega) (by omega)) rfl ?_
          refine O.ex (by first | exact Ex.loadP Tryd.isAgg3 rfl | exact Ex.loadR Tryd.isAgg3 rfl | exact Ex.loadIn1 Tryd.isAgg3 rfl (Holds.to (by assumption))) rfl ?_
          refine O.callF Tryd.call11 rfl rfl (CT.mono (qPut_ct (rk := rk) (s := s) hr hok.1 (Holds.to (by assumption))) ?_)
          rintro _ w ⟨-, H⟩
          refine O.nil ?_
          refine hK16 _ _ _ ?_
          refine W.region ?_
          refine O.ex (Ex.move rfl) rfl ?_
          refine O.ex (Ex.move rfl) rfl ?_
          refine O.ex (Ex.move rfl) rfl ?_
          refine O.ex (by first | exact Ex.idxR Tryd.runUnderlying22 Tryd.sizeOf3 rfl rfl | exact Ex.idxIn Tryd.runUnderlying22 Tryd.sizeOf3 rfl rfl | exact Ex.idxS Tryd.runUnderlying22 Tryd.sizeOf3 rfl rfl | exact Ex.idx Tryd.runUnderlying22 Tryd.sizeOf3 rfl rfl (by omega) (by omega)) rfl ?_
          refine O.ex (by first | exact Ex.loadP Tryd.isAgg3 rfl | exact Ex.loadR Tryd.isAgg3 rfl | exact Ex.loadIn1 Tryd.isAgg3 rfl (Holds.to (by assumption))) rfl ?_
          refine O.callF Tryd.call12 rfl rfl (CT.mono (rqPut_ct (rk := rk) (s := s) hr hok.1 (Holds.to (by assumption))) ?_)
          rintro _ w ⟨-, H⟩
          refine O.nil ?_
          refine hK15 _ _ _ ?_
          refine W.region ?_
          refine O.ex (Ex.move rfl) rfl ?_
          refine O.ex (by first | exact Ex.addI rfl rfl | exact Ex.add rfl rfl rfl) rfl ?_
          refine O.ex (Ex.assign rfl) rfl ?_
          refine O.nil ?_
          exact ⟨(i + 1, pset rk s (ps.getD i default)), ⟨rfl, rfl, rfl, rfl, rfl, rfl, trivial⟩, ⟨rfl, pset_ok hr hok _, Holds.to (by assumption)⟩, by dsimp only; omega⟩
        · refine W.exit ?_
          refine hK11 _ _ _ ?_
          refine W.seq (fun K17 hK17 => ?_)
          refine W.region ?_
          rcases Classical.em (pcode rk s v = 0) with he | he
          · have hS := setQ_with hr hok he
            refine O.ex (Ex.move rfl) rfl ?_
            refine O.callF Tryd.call18 rfl rfl (CT.mono (qSet_ct (rk := rk) (s := s) hT hr hok (Holds.to (by assumption))) ?_)
            rintro _ w ⟨rfl, H⟩
            refine O.ex (Ex.assign rfl) rfl ?_
            refine O.nil ?_
            refine hK17 _ _ _ ?_
            refine W.seq (fun K18 hK18 => ?_)
            refine W.region ?_
            refine O.ex (Ex.move rfl) rfl ?_
            refine O.ex (Ex.move rfl) rfl ?_
            refine O.callF Tryd.call11 rfl rfl (CT.mono (qPut_ct (rk := rk) (s := s) hr hok.1 (Holds.to (by assumption))) ?_)
            rintro _ w ⟨rfl, H⟩
            have hok := pset_ok hr hok v
            obtain ⟨s2, hs2⟩ : ∃ s2, s2 = pset rk s v := ⟨_, rfl⟩
            rw [← hs2] at H hok hS
            refine O.ex (Ex.assign rfl) rfl ?_
            refine O.nil ?_
            refine hK18 _ _ _ ?_
            refine W.seq (fun K19 hK19 => ?_)
            refine W.seq (fun K20 hK20 => ?_)
            refine W.region ?_
            refine O.ex (Ex.move rfl) rfl ?_
            refine O.ex (Ex.eqlI rfl rfl) rfl ?_
            refine O.ex (Ex.move rfl) rfl ?_
            refine O.known (t := 64) (c := true) rfl (by first | rfl | exact decide_eq_true he | exact decide_eq_false he | exact decide_eq_false (fun h => h he) | exact decide_eq_false (fun h => h hS) | exact decide_eq_true hz | exact hin | exact decide_eq_true hout | exact decide_eq_true hcode | exact decide_eq_true hback) ?_
            refine O.guard_t rfl rfl ?_
            refine O.ex (Ex.move rfl) rfl ?_
            refine O.guard_t rfl rfl ?_
            refine O.callF Tryd.call18 rfl rfl (CT.mono (qSet_ct (rk := rk) (s := s2) hT hr hok (Holds.to (by assumption))) ?_)
            rintro _ w ⟨rfl, H⟩
            refine O.guard_t rfl rfl ?_
            refine O.ex (Ex.move rfl) rfl ?_
            refine O.guard_t rfl rfl ?_
            refine O.ex (Ex.move rfl) rfl ?_
            refine O.guard_t rfl rfl ?_
            refine O.callF Tryd.call19 rfl rfl (CT.mono (with_ct (Holds.to (by assumption)) (setQ_64 rk s)) ?_)
            rintro _ w ⟨rfl, H⟩
            refine O.guard_t rfl rfl ?_
            refine O.ex (Ex.neq64 _ _ rfl rfl) rfl ?_
            refine O.ex (Ex.pick_t rfl rfl) rfl ?_
            refine O.ex (Ex.move rfl) rfl ?_
            refine O.known (t := 72) (c := false) rfl (by first | rfl | exact decide_eq_true he | exact decide_eq_false he | exact decide_eq_false (fun h => h he) | exact decide_eq_false (fun h => h hS) | exact decide_eq_true hz | exact hin | exact decide_eq_true hout | exact decide_eq_true hcode | exact decide_eq_true hback) ?_
            refine O.guard_t rfl rfl ?_
            refine O.ex (Ex.move rfl) rfl ?_
            refine O.guard_t rfl rfl ?_
            refine O.ex (Ex.neqI rfl rfl) rfl ?_
            refine O.guard_t rfl rfl ?_
            refine O.ex (Ex.move rfl) rfl ?_
            refine O.known (t := 75) (c := false) rfl (by first | rfl | exact decide_eq_true he | exact decide_eq_false he | exact decide_eq_false (fun h => h he) | exact decide_eq_false (fun h => h hS) | exact decide_eq_true hz | exact hin | exact decide_eq_true hout | exact decide_eq_true hcode | exact decide_eq_true hback) ?_
            refine O.guard_f rfl rfl rfl rfl ?_
            refine O.guard_f rfl rfl rfl rfl ?_
            refine O.guard_f rfl rfl rfl rfl ?_
            refine O.guard_f rfl rfl rfl rfl ?_
            refine O.guard_t rfl rfl ?_
            refine O.ex (Ex.pick_f rfl rfl) rfl ?_
            refine O.ex (Ex.pick_f rfl rfl) rfl ?_
            refine O.nil ?_
            refine hK20 _ _ _ ?_
            refine W.cond_f rfl ?_
            refine W.skip ?_
            refine hK19 _ _ _ ?_
            refine W.seq (fun K21 hK21 => ?_)
            refine W.region ?_
            refine O.ex (Ex.move rfl) rfl ?_
            refine O.callF Tryd.call18 rfl rfl (CT.mono (qSet_ct (rk := rk) (s := s2) hT hr hok (Holds.to (by assumption))) ?_)
            rintro _ w ⟨rfl, H⟩
            refine O.ex (Ex.assign rfl) rfl ?_
            refine O.nil ?_
            refine hK21 _ _ _ ?_
            refine W.seq (fun K22 hK22 => ?_)
            refine W.region ?_
            refine O.ex (Ex.move rfl) rfl ?_
            refine O.callF Tryd.call15 rfl rfl (CT.mono (qTake_ct (rk := rk) (s := s2) hT hr hok (Holds.to (by assumption))) ?_)
            rintro _ w ⟨rfl, H⟩
            have hok1 := tks_ok hok
            refine O.ex (Ex.move rfl) rfl ?_
            refine O.ex (Ex.extract rfl rfl) rfl ?_
            refine O.ex (Ex.extract rfl rfl) rfl ?_
            refine O.ex (Ex.assign rfl) rfl ?_
            refine O.ex (Ex.assign rfl) rfl ?_
            refine O.nil ?_
            refine hK22 _ _ _ ?_
            refine W.seq (fun K23 hK23 => ?_)
            refine W.seq (fun K24 hK24 => ?_)
            refine W.region ?_
            refine O.ex (Ex.move rfl) rfl ?_
            refine O.ex (by first | exact Ex.notD rfl | exact Ex.not rfl) rfl ?_
            refine O.nil ?_
            refine hK24 _ _ _ ?_
            first | refine W.cond_p rfl (fun hzz => ?_) (fun hnz => ?_) | refine W.cond_b rfl (fun hzz => ?_) (fun hnz => ?_)
            · refine W.seq (fun K25 hK25 => ?_)
              refine W.region ?_
              have hs0 : s2 = 0 := Decidable.not_not.1 hzz
              have hz : setQ rk s2 = 0 := by rw [hs0, setQ_zero]
              have hz2 : setQ rk (tks rk s2) = 0 := by rw [hs0, tks_zero, setQ_zero]
              refine O.ex (Ex.move rfl) rfl ?_
              refine O.ex (Ex.eql64 _ 0 rfl rfl) rfl ?_
              refine O.ex (Ex.move rfl) rfl ?_
              refine O.known (t := 93) (c := true) rfl (by first | rfl | exact decide_eq_true he | exact decide_eq_false he | exact decide_eq_false (fun h => h he) | exact decide_eq_false (fun h => h hS) | exact decide_eq_true hz | exact hin | exact decide_eq_true hout | exact decide_eq_true hcode | exact decide_eq_true hback) ?_
              refine O.guard_t rfl rfl ?_
              refine O.ex (Ex.move rfl) rfl ?_
              refine O.guard_t rfl rfl ?_
              refine O.callF Tryd.call18 rfl rfl (CT.mono (qSet_ct (rk := rk) (s := tks rk s2) hT hr hok1 (Holds.to (by assumption))) ?_)
              rintro _ w ⟨rfl, H⟩
              refine O.guard_t rfl rfl ?_
              refine O.ex (Ex.eql64 _ 0 rfl rfl) rfl ?_
              refine O.ex (Ex.pick_t rfl rfl) rfl ?_
              refine O.ex (Ex.assign rfl) rfl ?_
              refine O.nil ?_
              refine hK25 _ _ _ ?_
              refine W.ret ?_
              try dsimp only [thenQ, blockQ, retQ]
              first | refine ⟨_, ⟨_, _, rfl, rfl, rfl⟩, ?_⟩ | (refine retD_mark ?_; intro w H; refine ⟨_, ⟨_, _, rfl, rfl, rfl⟩, ?_⟩) | (refine retD_mark2 ?_; intro w H; refine ⟨_, ⟨_, _, rfl, rfl, rfl⟩, ?_⟩)
              exact ⟨by first | rfl | exact congrArg Value.bool (decide_eq_true hz2) | exact congrArg Value.bool (decide_eq_true (by rw [hpop])), Holds.base_below (L := []) (Holds.to (by assumption))⟩
            · refine W.skip ?_
              refine hK23 _ _ _ ?_
              refine W.seq (fun K26 hK26 => ?_)
              refine W.region ?_
              have h0 : s2 ≠ 0 := Decidable.not_not.1 hnz
              obtain ⟨hin, hout⟩ := setQ_out hr hok h0
              obtain ⟨hcode, hset⟩ := put_back hr hok h0
              have hback : setQ rk s2 = setQ rk s2 := rfl
              have hpop := pop_setQ hr hok
              refine O.ex (Ex.move rfl) rfl ?_
              refine O.ex (Ex.move rfl) rfl ?_
              refine O.callF Tryd.call20 rfl rfl (CT.mono (has_ct (Holds.to (by assumption)) (setQ_64 rk s2)) ?_)
              rintro _ w ⟨rfl, H⟩
              refine O.ex (Ex.move rfl) rfl ?_
              refine O.known (t := 101) (c := true) rfl (by first | rfl | exact decide_eq_true he | exact decide_eq_false he | exact decide_eq_false (fun h => h he) | exact decide_eq_false (fun h => h hS) | exact decide_eq_true hz | exact hin | exact decide_eq_true hout | exact decide_eq_true hcode | exact decide_eq_true hback) ?_
              refine O.guard_t rfl rfl ?_
              refine O.ex (Ex.move rfl) rfl ?_
              refine O.guard_t rfl rfl ?_
              refine O.callF Tryd.call18 rfl rfl (CT.mono (qSet_ct (rk := rk) (s := tks rk s2) hT hr hok1 (Holds.to (by assumption))) ?_)
              rintro _ w ⟨rfl, H⟩
              refine O.guard_t rfl rfl ?_
              refine O.ex (Ex.move rfl) rfl ?_
              refine O.guard_t rfl rfl ?_
              refine O.ex (Ex.move rfl) rfl ?_
              refine O.guard_t rfl rfl ?_
              refine O.callF Tryd.call21 rfl rfl (CT.mono (without_ct (Holds.to (by assumption)) (setQ_64 rk s2)) ?_)
              rintro _ w ⟨rfl, H⟩
              refine O.guard_t rfl rfl ?_
              refine O.ex (Ex.eql64 _ _ rfl rfl) rfl ?_
              refine O.ex (Ex.pick_t rfl rfl) rfl ?_
              refine O.ex (Ex.move rfl) rfl ?_
              refine O.known (t := 109) (c := true) rfl (by first | rfl | exact decide_eq_true he | exact decide_eq_false he | exact decide_eq_false (fun h => h he) | exact decide_eq_false (fun h => h hS) | exact decide_eq_true hz | exact hin | exact decide_eq_true hout | exact decide_eq_true hcode | exact decide_eq_true hback) ?_
              refine O.guard_t rfl rfl ?_
              refine O.ex (Ex.move rfl) rfl ?_
              refine O.guard_t rfl rfl ?_
              refine O.ex (Ex.move rfl) rfl ?_
              refine O.guard_t rfl rfl ?_
              refine O.callF Tryd.call11 rfl rfl (CT.mono (qPut_ct (rk := rk) (s := tks rk s2) hr hok1.1 (Holds.to (by assumption))) ?_)
              rintro _ w ⟨rfl, H⟩
              rw [hset] at H
              refine O.guard_t rfl rfl ?_
              refine O.ex (Ex.eqlI rfl rfl) rfl ?_
              refine O.ex (Ex.pick_t rfl rfl) rfl ?_
              refine O.ex (Ex.move rfl) rfl ?_
              refine O.known (t := 115) (c := true) rfl (by first | rfl | exact decide_eq_true he | exact decide_eq_false he | exact decide_eq_false (fun h => h he) | exact decide_eq_false (fun h => h hS) | exact decide_eq_true hz | exact hin | exact decide_eq_true hout | exact decide_eq_true hcode | exact decide_eq_true hback) ?_
              refine O.guard_t rfl rfl ?_
              refine O.ex (Ex.move rfl) rfl ?_
              refine O.guard_t rfl rfl ?_
              refine O.callF Tryd.call18 rfl rfl (CT.mono (qSet_ct (rk := rk) (s := s2) hT hr hok (Holds.to (by assumption))) ?_)
              rintro _ w ⟨rfl, H⟩
              refine O.guard_t rfl rfl ?_
              refine O.ex (Ex.move rfl) rfl ?_
              refine O.guard_t rfl rfl ?_
              refine O.ex (Ex.eql64 _ _ rfl rfl) rfl ?_
              refine O.ex (Ex.pick_t rfl rfl) rfl ?_
              refine O.ex (Ex.move rfl) rfl ?_
              refine O.known (t := 121) (c := true) rfl (by first | rfl | exact decide_eq_true he | exact decide_eq_false he | exact decide_eq_false (fun h => h he) | exact decide_eq_false (fun h => h hS) | exact decide_eq_true hz | exact hin | exact decide_eq_true hout | exact decide_eq_true hcode | exact decide_eq_true hback) ?_
              refine O.guard_t rfl rfl ?_
              refine O.ex (Ex.move rfl) rfl ?_
              refine O.guard_t rfl rfl ?_
              refine O.callF Tryd.call16 rfl rfl (CT.mono (qLen_ct (rk := rk) (s := s2) hok.1 (Holds.to (by assumption))) ?_)
              rintro _ w ⟨rfl, H⟩
              refine O.guard_t rfl rfl ?_
              refine O.ex (Ex.move rfl) rfl ?_
              refine O.guard_t rfl rfl ?_
              refine O.callF Tryd.call22 rfl rfl (CT.mono (len_ct (Holds.to (by assumption)) (setQ_64 rk s2)) ?_)
              rintro _ w ⟨rfl, H⟩
              refine O.guard_t rfl rfl ?_
              refine O.ex (Ex.eqlI rfl rfl) rfl ?_
              refine O.ex (Ex.pick_t rfl rfl) rfl ?_
              refine O.ex (Ex.assign rfl) rfl ?_
              refine O.nil ?_
              refine hK26 _ _ _ ?_
              refine W.ret ?_
              try dsimp only [thenQ, blockQ, retQ]
              first | refine ⟨_, ⟨_, _, rfl, rfl, rfl⟩, ?_⟩ | (refine retD_mark ?_; intro w H; refine ⟨_, ⟨_, _, rfl, rfl, rfl⟩, ?_⟩) | (refine retD_mark2 ?_; intro w H; refine ⟨_, ⟨_, _, rfl, rfl, rfl⟩, ?_⟩)
              exact ⟨by first | rfl | exact congrArg Value.bool (decide_eq_true hz2) | exact congrArg Value.bool (decide_eq_true (by rw [hpop])), Holds.base_below (L := []) (Holds.to (by assumption))⟩
          · have hS := congrArg (setQ rk) (pset_ne he)
            refine O.ex (Ex.move rfl) rfl ?_
            refine O.callF Tryd.call18 rfl rfl (CT.mono (qSet_ct (rk := rk) (s := s) hT hr hok (Holds.to (by assumption))) ?_)
            rintro _ w ⟨rfl, H⟩
            refine O.ex (Ex.assign rfl) rfl ?_
            refine O.nil ?_
            refine hK17 _ _ _ ?_
            refine W.seq (fun K27 hK27 => ?_)
            refine W.region ?_
            refine O.ex (Ex.move rfl) rfl ?_
            refine O.ex (Ex.move rfl) rfl ?_
            refine O.callF Tryd.call11 rfl rfl (CT.mono (qPut_ct (rk := rk) (s := s) hr hok.1 (Holds.to (by assumption))) ?_)
            rintro _ w ⟨rfl, H⟩
            have hok := pset_ok hr hok v
            obtain ⟨s2, hs2⟩ : ∃ s2, s2 = pset rk s v := ⟨_, rfl⟩
            rw [← hs2] at H hok hS
            refine O.ex (Ex.assign rfl) rfl ?_
            refine O.nil ?_
            refine hK27 _ _ _ ?_
            refine W.seq (fun K28 hK28 => ?_)
            refine W.seq (fun K29 hK29 => ?_)
            refine W.region ?_
            refine O.ex (Ex.move rfl) rfl ?_
            refine O.ex (Ex.eqlI rfl rfl) rfl ?_
            refine O.ex (Ex.move rfl) rfl ?_
            refine O.known (t := 64) (c := false) rfl (by first | rfl | exact decide_eq_true he | exact decide_eq_false he | exact decide_eq_false (fun h => h he) | exact decide_eq_false (fun h => h hS) | exact decide_eq_true hz | exact hin | exact decide_eq_true hout | exact decide_eq_true hcode | exact decide_eq_true hback) ?_
            refine O.guard_f rfl rfl rfl rfl ?_
            refine O.guard_f rfl rfl rfl rfl ?_
            refine O.guard_f rfl rfl rfl rfl ?_
            refine O.guard_f rfl rfl rfl rfl ?_
            refine O.guard_f rfl rfl rfl rfl ?_
            refine O.guard_f rfl rfl rfl rfl ?_
            refine O.ex (Ex.pick_f rfl rfl) rfl ?_
            refine O.ex (Ex.move rfl) rfl ?_
            refine O.guard_t rfl rfl ?_
            refine O.ex (Ex.move rfl) rfl ?_
            refine O.guard_t rfl rfl ?_
            refine O.ex (Ex.neqI rfl rfl) rfl ?_
            refine O.guard_t rfl rfl ?_
            refine O.ex (Ex.move rfl) rfl ?_
            refine O.known (t := 75) (c := true) rfl (by first | rfl | exact decide_eq_true he | exact decide_eq_false he | exact decide_eq_false (fun h => h he) | exact decide_eq_false (fun h => h hS) | exact decide_eq_true hz | exact hin | exact decide_eq_true hout | exact decide_eq_true hcode | exact decide_eq_true hback) ?_
            refine O.guard_t rfl rfl ?_
            refine O.ex (Ex.move rfl) rfl ?_
            refine O.guard_t rfl rfl ?_
            refine O.callF Tryd.call18 rfl rfl (CT.mono (qSet_ct (rk := rk) (s := s2) hT hr hok (Holds.to (by assumption))) ?_)
            rintro _ w ⟨rfl, H⟩
            refine O.guard_t rfl rfl ?_
            refine O.ex (Ex.move rfl) rfl ?_
            refine O.guard_t rfl rfl ?_
            refine O.ex (Ex.neq64 _ _ rfl rfl) rfl ?_
            refine O.guard_t rfl rfl ?_
            refine O.ex (Ex.pick_t rfl rfl) rfl ?_
            refine O.ex (Ex.pick_f rfl rfl) rfl ?_
            refine O.nil ?_
            refine hK29 _ _ _ ?_
            refine W.known_f rfl (by first | rfl | exact decide_eq_true he | exact decide_eq_false he | exact decide_eq_false (fun h => h he) | exact decide_eq_false (fun h => h hS) | exact decide_eq_true hz | exact hin | exact decide_eq_true hout | exact decide_eq_true hcode | exact decide_eq_true hback) ?_
            refine W.skip ?_
            refine hK28 _ _ _ ?_
            refine W.seq (fun K30 hK30 => ?_)
            refine W.region ?_
            refine O.ex (Ex.move rfl) rfl ?_
            refine O.callF Tryd.call18 rfl rfl (CT.mono (qSet_ct (rk := rk) (s := s2) hT hr hok (Holds.to (by assumption))) ?_)
            rintro _ w ⟨rfl, H⟩
            refine O.ex (Ex.assign rfl) rfl ?_
            refine O.nil ?_
            refine hK30 _ _ _ ?_
            refine W.seq (fun K31 hK31 => ?_)
            refine W.region ?_
            refine O.ex (Ex.move rfl) rfl ?_
            refine O.callF Tryd.call15 rfl rfl (CT.mono (qTake_ct (rk := rk) (s := s2) hT hr hok (Holds.to (by assumption))) ?_)
            rintro _ w ⟨rfl, H⟩
            have hok1 := tks_ok hok
            refine O.ex (Ex.move rfl) rfl ?_
            refine O.ex (Ex.extract rfl rfl) rfl ?_
            refine O.ex (Ex.extract rfl rfl) rfl ?_
            refine O.ex (Ex.assign rfl) rfl ?_
            refine O.ex (Ex.assign rfl) rfl ?_
            refine O.nil ?_
            refine hK31 _ _ _ ?_
            refine W.seq (fun K32 hK32 => ?_)
            refine W.seq (fun K33 hK33 => ?_)
            refine W.region ?_
            refine O.ex (Ex.move rfl) rfl ?_
            refine O.ex (by first | exact Ex.notD rfl | exact Ex.not rfl) rfl ?_
            refine O.nil ?_
            refine hK33 _ _ _ ?_
            first | refine W.cond_p rfl (fun hzz => ?_) (fun hnz => ?_) | refine W.cond_b rfl (fun hzz => ?_) (fun hnz => ?_)
            · refine W.seq (fun K34 hK34 => ?_)
              refine W.region ?_
              have hs0 : s2 = 0 := Decidable.not_not.1 hzz
              have hz : setQ rk s2 = 0 := by rw [hs0, setQ_zero]
              have hz2 : setQ rk (tks rk s2) = 0 := by rw [hs0, tks_zero, setQ_zero]
              refine O.ex (Ex.move rfl) rfl ?_
              refine O.ex (Ex.eql64 _ 0 rfl rfl) rfl ?_
              refine O.ex (Ex.move rfl) rfl ?_
              refine O.known (t := 93) (c := true) rfl (by first | rfl | exact decide_eq_true he | exact decide_eq_false he | exact decide_eq_false (fun h => h he) | exact decide_eq_false (fun h => h hS) | exact decide_eq_true hz | exact hin | exact decide_eq_true hout | exact decide_eq_true hcode | exact decide_eq_true hback) ?_
              refine O.guard_t rfl rfl ?_
              refine O.ex (Ex.move rfl) rfl ?_
              refine O.guard_t rfl rfl ?_
              refine O.callF Tryd.call18 rfl rfl (CT.mono (qSet_ct (rk := rk) (s := tks rk s2) hT hr hok1 (Holds.to (by assumption))) ?_)
              rintro _ w ⟨rfl, H⟩
              refine O.guard_t rfl rfl ?_
              refine O.ex (Ex.eql64 _ 0 rfl rfl) rfl ?_
              refine O.ex (Ex.pick_t rfl rfl) rfl ?_
              refine O.ex (Ex.assign rfl) rfl ?_
              refine O.nil ?_
              refine hK34 _ _ _ ?_
              refine W.ret ?_
              try dsimp only [thenQ, blockQ, retQ]
              first | refine ⟨_, ⟨_, _, rfl, rfl, rfl⟩, ?_⟩ | (refine retD_mark ?_; intro w H; refine ⟨_, ⟨_, _, rfl, rfl, rfl⟩, ?_⟩) | (refine retD_mark2 ?_; intro w H; refine ⟨_, ⟨_, _, rfl, rfl, rfl⟩, ?_⟩)
              exact ⟨by first | rfl | exact congrArg Value.bool (decide_eq_true hz2) | exact congrArg Value.bool (decide_eq_true (by rw [hpop])), Holds.base_below (L := []) (Holds.to (by assumption))⟩
            · refine W.skip ?_
              refine hK32 _ _ _ ?_
              refine W.seq (fun K35 hK35 => ?_)
              refine W.region ?_
              have h0 : s2 ≠ 0 := Decidable.not_not.1 hnz
              obtain ⟨hin, hout⟩ := setQ_out hr hok h0
              obtain ⟨hcode, hset⟩ := put_back hr hok h0
              have hback : setQ rk s2 = setQ rk s2 := rfl
              have hpop := pop_setQ hr hok
              refine O.ex (Ex.move rfl) rfl ?_
              refine O.ex (Ex.move rfl) rfl ?_
              refine O.callF Tryd.call20 rfl rfl (CT.mono (has_ct (Holds.to (by assumption)) (setQ_64 rk s2)) ?_)
              rintro _ w ⟨rfl, H⟩
              refine O.ex (Ex.move rfl) rfl ?_
              refine O.known (t := 101) (c := true) rfl (by first | rfl | exact decide_eq_true he | exact decide_eq_false he | exact decide_eq_false (fun h => h he) | exact decide_eq_false (fun h => h hS) | exact decide_eq_true hz | exact hin | exact decide_eq_true hout | exact decide_eq_true hcode | exact decide_eq_true hback) ?_
              refine O.guard_t rfl rfl ?_
              refine O.ex (Ex.move rfl) rfl ?_
              refine O.guard_t rfl rfl ?_
              refine O.callF Tryd.call18 rfl rfl (CT.mono (qSet_ct (rk := rk) (s := tks rk s2) hT hr hok1 (Holds.to (by assumption))) ?_)
              rintro _ w ⟨rfl, H⟩
              refine O.guard_t rfl rfl ?_
              refine O.ex (Ex.move rfl) rfl ?_
              refine O.guard_t rfl rfl ?_
              refine O.ex (Ex.move rfl) rfl ?_
              refine O.guard_t rfl rfl ?_
              refine O.callF Tryd.call21 rfl rfl (CT.mono (without_ct (Holds.to (by assumption)) (setQ_64 rk s2)) ?_)
              rintro _ w ⟨rfl, H⟩
              refine O.guard_t rfl rfl ?_
              refine O.ex (Ex.eql64 _ _ rfl rfl) rfl ?_
              refine O.ex (Ex.pick_t rfl rfl) rfl ?_
              refine O.ex (Ex.move rfl) rfl ?_
              refine O.known (t := 109) (c := true) rfl (by first | rfl | exact decide_eq_true he | exact decide_eq_false he | exact decide_eq_false (fun h => h he) | exact decide_eq_false (fun h => h hS) | exact decide_eq_true hz | exact hin | exact decide_eq_true hout | exact decide_eq_true hcode | exact decide_eq_true hback) ?_
              refine O.guard_t rfl rfl ?_
              refine O.ex (Ex.move rfl) rfl ?_
              refine O.guard_t rfl rfl ?_
              refine O.ex (Ex.move rfl) rfl ?_
              refine O.guard_t rfl rfl ?_
              refine O.callF Tryd.call11 rfl rfl (CT.mono (qPut_ct (rk := rk) (s := tks rk s2) hr hok1.1 (Holds.to (by assumption))) ?_)
              rintro _ w ⟨rfl, H⟩
              rw [hset] at H
              refine O.guard_t rfl rfl ?_
              refine O.ex (Ex.eqlI rfl rfl) rfl ?_
              refine O.ex (Ex.pick_t rfl rfl) rfl ?_
              refine O.ex (Ex.move rfl) rfl ?_
              refine O.known (t := 115) (c := true) rfl (by first | rfl | exact decide_eq_true he | exact decide_eq_false he | exact decide_eq_false (fun h => h he) | exact decide_eq_false (fun h => h hS) | exact decide_eq_true hz | exact hin | exact decide_eq_true hout | exact decide_eq_true hcode | exact decide_eq_true hback) ?_
              refine O.guard_t rfl rfl ?_
              refine O.ex (Ex.move rfl) rfl ?_
              refine O.guard_t rfl rfl ?_
              refine O.callF Tryd.call18 rfl rfl (CT.mono (qSet_ct (rk := rk) (s := s2) hT hr hok (Holds.to (by assumption))) ?_)
              rintro _ w ⟨rfl, H⟩
              refine O.guard_t rfl rfl ?_
              refine O.ex (Ex.move rfl) rfl ?_
              refine O.guard_t rfl rfl ?_
              refine O.ex (Ex.eql64 _ _ rfl rfl) rfl ?_
              refine O.ex (Ex.pick_t rfl rfl) rfl ?_
              refine O.ex (Ex.move rfl) rfl ?_
              refine O.known (t := 121) (c := true) rfl (by first | rfl | exact decide_eq_true he | exact decide_eq_false he | exact decide_eq_false (fun h => h he) | exact decide_eq_false (fun h => h hS) | exact decide_eq_true hz | exact hin | exact decide_eq_true hout | exact decide_eq_true hcode | exact decide_eq_true hback) ?_
              refine O.guard_t rfl rfl ?_
              refine O.ex (Ex.move rfl) rfl ?_
              refine O.guard_t rfl rfl ?_
              refine O.callF Tryd.call16 rfl rfl (CT.mono (qLen_ct (rk := rk) (s := s2) hok.1 (Holds.to (by assumption))) ?_)
              rintro _ w ⟨rfl, H⟩
              refine O.guard_t rfl rfl ?_
              refine O.ex (Ex.move rfl) rfl ?_
              refine O.guard_t rfl rfl ?_
              refine O.callF Tryd.call22 rfl rfl (CT.mono (len_ct (Holds.to (by assumption)) (setQ_64 rk s2)) ?_)
              rintro _ w ⟨rfl, H⟩
              refine O.guard_t rfl rfl ?_
              refine O.ex (Ex.eqlI rfl rfl) rfl ?_
              refine O.ex (Ex.pick_t rfl rfl) rfl ?_
              refine O.ex (Ex.assign rfl) rfl ?_
              refine O.nil ?_
              refine hK35 _ _ _ ?_
              refine W.ret ?_
              try dsimp only [thenQ, blockQ, retQ]
              first | refine ⟨_, ⟨_, _, rfl, rfl, rfl⟩, ?_⟩ | (refine retD_mark ?_; intro w H; refine ⟨_, ⟨_, _, rfl, rfl, rfl⟩, ?_⟩) | (refine retD_mark2 ?_; intro w H; refine ⟨_, ⟨_, _, rfl, rfl, rfl⟩, ?_⟩)
              exact ⟨by first | rfl | exact congrArg Value.bool (decide_eq_true hz2) | exact congrArg Value.bool (decide_eq_true (by rw [hpop])), Holds.base_below (L := []) (Holds.to (by assumption))⟩
      · refine O.guard_f rfl rfl rfl rfl ?_
        refine O.guard_f rfl rfl rfl rfl ?_
        refine O.ex (Ex.pick_f rfl rfl) rfl ?_
        refine O.nil ?_
        refine hK14 _ _ _ ?_
        refine W.cond_f rfl ?_
        refine W.exit ?_
        refine hK11 _ _ _ ?_
        refine W.seq (fun K36 hK36 => ?_)
        refine W.region ?_
        rcases Classical.em (pcode rk s v = 0) with he | he
        · have hS := setQ_with hr hok he
          refine O.ex (Ex.move rfl) rfl ?_
          refine O.callF Tryd.call18 rfl rfl (CT.mono (qSet_ct (rk := rk) (s := s) hT hr hok (Holds.to (by assumption))) ?_)
          rintro _ w ⟨rfl, H⟩
          refine O.ex (Ex.assign rfl) rfl ?_
          refine O.nil ?_
          refine hK36 _ _ _ ?_
          refine W.seq (fun K37 hK37 => ?_)
          refine W.region ?_
          refine O.ex (Ex.move rfl) rfl ?_
          refine O.ex (Ex.move rfl) rfl ?_
          refine O.callF Tryd.call11 rfl rfl (CT.mono (qPut_ct (rk := rk) (s := s) hr hok.1 (Holds.to (by assumption))) ?_)
          rintro _ w ⟨rfl, H⟩
          have hok := pset_ok hr hok v
          obtain ⟨s2, hs2⟩ : ∃ s2, s2 = pset rk s v := ⟨_, rfl⟩
          rw [← hs2] at H hok hS
          refine O.ex (Ex.assign rfl) rfl ?_
          refine O.nil ?_
          refine hK37 _ _ _ ?_
          refine W.seq (fun K38 hK38 => ?_)
          refine W.seq (fun K39 hK39 => ?_)
          refine W.region ?_
          refine O.ex (Ex.move rfl) rfl ?_
          refine O.ex (Ex.eqlI rfl rfl) rfl ?_
          refine O.ex (Ex.move rfl) rfl ?_
          refine O.known (t := 64) (c := true) rfl (by first | rfl | exact decide_eq_true he | exact decide_eq_false he | exact decide_eq_false (fun h => h he) | exact decide_eq_false (fun h => h hS) | exact decide_eq_true hz | exact hin | exact decide_eq_true hout | exact decide_eq_true hcode | exact decide_eq_true hback) ?_
          refine O.guard_t rfl rfl ?_
          refine O.ex (Ex.move rfl) rfl ?_
          refine O.guard_t rfl rfl ?_
          refine O.callF Tryd.call18 rfl rfl (CT.mono (qSet_ct (rk := rk) (s := s2) hT hr hok (Holds.to (by assumption))) ?_)
          rintro _ w ⟨rfl, H⟩
          refine O.guard_t rfl rfl ?_
          refine O.ex (Ex.move rfl) rfl ?_
          refine O.guard_t rfl rfl ?_
          refine O.ex (Ex.move rfl) rfl ?_
          refine O.guard_t rfl rfl ?_
          refine O.callF Tryd.call19 rfl rfl (CT.mono (with_ct (Holds.to (by assumption)) (setQ_64 rk s)) ?_)
          rintro _ w ⟨rfl, H⟩
          refine O.guard_t rfl rfl ?_
          refine O.ex (Ex.neq64 _ _ rfl rfl) rfl ?_
          refine O.ex (Ex.pick_t rfl rfl) rfl ?_
          refine O.ex (Ex.move rfl) rfl ?_
          refine O.known (t := 72) (c := false) rfl (by first | rfl | exact decide_eq_true he | exact decide_eq_false he | exact decide_eq_false (fun h => h he) | exact decide_eq_false (fun h => h hS) | exact decide_eq_true hz | exact hin | exact decide_eq_true hout | exact decide_eq_true hcode | exact decide_eq_true hback) ?_
          refine O.guard_t rfl rfl ?_
          refine O.ex (Ex.move rfl) rfl ?_
          refine O.guard_t rfl rfl ?_
          refine O.ex (Ex.neqI rfl rfl) rfl ?_
          refine O.guard_t rfl rfl ?_
          refine O.ex (Ex.move rfl) rfl ?_
          refine O.known (t := 75) (c := false) rfl (by first | rfl | exact decide_eq_true he | exact decide_eq_false he | exact decide_eq_false (fun h => h he) | exact decide_eq_false (fun h => h hS) | exact decide_eq_true hz | exact hin | exact decide_eq_true hout | exact decide_eq_true hcode | exact decide_eq_true hback) ?_
          refine O.guard_f rfl rfl rfl rfl ?_
          refine O.guard_f rfl rfl rfl rfl ?_
          refine O.guard_f rfl rfl rfl rfl ?_
          refine O.guard_f rfl rfl rfl rfl ?_
          refine O.guard_t rfl rfl ?_
          refine O.ex (Ex.pick_f rfl rfl) rfl ?_
          refine O.ex (Ex.pick_f rfl rfl) rfl ?_
          refine O.nil ?_
          refine hK39 _ _ _ ?_
          refine W.cond_f rfl ?_
          refine W.skip ?_
          refine hK38 _ _ _ ?_
          refine W.seq (fun K40 hK40 => ?_)
          refine W.region ?_
          refine O.ex (Ex.move rfl) rfl ?_
          refine O.callF Tryd.call18 rfl rfl (CT.mono (qSet_ct (rk := rk) (s := s2) hT hr hok (Holds.to (by assumption))) ?_)
          rintro _ w ⟨rfl, H⟩
          refine O.ex (Ex.assign rfl) rfl ?_
          refine O.nil ?_
          refine hK40 _ _ _ ?_
          refine W.seq (fun K41 hK41 => ?_)
          refine W.region ?_
          refine O.ex (Ex.move rfl) rfl ?_
          refine O.callF Tryd.call15 rfl rfl (CT.mono (qTake_ct (rk := rk) (s := s2) hT hr hok (Holds.to (by assumption))) ?_)
          rintro _ w ⟨rfl, H⟩
          have hok1 := tks_ok hok
          refine O.ex (Ex.move rfl) rfl ?_
          refine O.ex (Ex.extract rfl rfl) rfl ?_
          refine O.ex (Ex.extract rfl rfl) rfl ?_
          refine O.ex (Ex.assign rfl) rfl ?_
          refine O.ex (Ex.assign rfl) rfl ?_
          refine O.nil ?_
          refine hK41 _ _ _ ?_
          refine W.seq (fun K42 hK42 => ?_)
          refine W.seq (fun K43 hK43 => ?_)
          refine W.region ?_
          refine O.ex (Ex.move rfl) rfl ?_
          refine O.ex (by first | exact Ex.notD rfl | exact Ex.not rfl) rfl ?_
          refine O.nil ?_
          refine hK43 _ _ _ ?_
          first | refine W.cond_p rfl (fun hzz => ?_) (fun hnz => ?_) | refine W.cond_b rfl (fun hzz => ?_) (fun hnz => ?_)
          · refine W.seq (fun K44 hK44 => ?_)
            refine W.region ?_
            have hs0 : s2 = 0 := Decidable.not_not.1 hzz
            have hz : setQ rk s2 = 0 := by rw [hs0, setQ_zero]
            have hz2 : setQ rk (tks rk s2) = 0 := by rw [hs0, tks_zero, setQ_zero]
            refine O.ex (Ex.move rfl) rfl ?_
            refine O.ex (Ex.eql64 _ 0 rfl rfl) rfl ?_
            refine O.ex (Ex.move rfl) rfl ?_
            refine O.known (t := 93) (c := true) rfl (by first | rfl | exact decide_eq_true he | exact decide_eq_false he | exact decide_eq_false (fun h => h he) | exact decide_eq_false (fun h => h hS) | exact decide_eq_true hz | exact hin | exact decide_eq_true hout | exact decide_eq_true hcode | exact decide_eq_true hback) ?_
            refine O.guard_t rfl rfl ?_
            refine O.ex (Ex.move rfl) rfl ?_
            refine O.guard_t rfl rfl ?_
            refine O.callF Tryd.call18 rfl rfl (CT.mono (qSet_ct (rk := rk) (s := tks rk s2) hT hr hok1 (Holds.to (by assumption))) ?_)
            rintro _ w ⟨rfl, H⟩
            refine O.guard_t rfl rfl ?_
            refine O.ex (Ex.eql64 _ 0 rfl rfl) rfl ?_
            refine O.ex (Ex.pick_t rfl rfl) rfl ?_
            refine O.ex (Ex.assign rfl) rfl ?_
            refine O.nil ?_
            refine hK44 _ _ _ ?_
            refine W.ret ?_
            try dsimp only [thenQ, blockQ, retQ]
            first | refine ⟨_, ⟨_, _, rfl, rfl, rfl⟩, ?_⟩ | (refine retD_mark ?_; intro w H; refine ⟨_, ⟨_, _, rfl, rfl, rfl⟩, ?_⟩) | (refine retD_mark2 ?_; intro w H; refine ⟨_, ⟨_, _, rfl, rfl, rfl⟩, ?_⟩)
            exact ⟨by first | rfl | exact congrArg Value.bool (decide_eq_true hz2) | exact congrArg Value.bool (decide_eq_true (by rw [hpop])), Holds.base_below (L := []) (Holds.to (by assumption))⟩
          · refine W.skip ?_
            refine hK42 _ _ _ ?_
            refine W.seq (fun K45 hK45 => ?_)
            refine W.region ?_
            have h0 : s2 ≠ 0 := Decidable.not_not.1 hnz
            obtain ⟨hin, hout⟩ := setQ_out hr hok h0
            obtain ⟨hcode, hset⟩ := put_back hr hok h0
            have hback : setQ rk s2 = setQ rk s2 := rfl
            have hpop := pop_setQ hr hok
            refine O.ex (Ex.move rfl) rfl ?_
            refine O.ex (Ex.move rfl) rfl ?_
            refine O.callF Tryd.call20 rfl rfl (CT.mono (has_ct (Holds.to (by assumption)) (setQ_64 rk s2)) ?_)
            rintro _ w ⟨rfl, H⟩
            refine O.ex (Ex.move rfl) rfl ?_
            refine O.known (t := 101) (c := true) rfl (by first | rfl | exact decide_eq_true he | exact decide_eq_false he | exact decide_eq_false (fun h => h he) | exact decide_eq_false (fun h => h hS) | exact decide_eq_true hz | exact hin | exact decide_eq_true hout | exact decide_eq_true hcode | exact decide_eq_true hback) ?_
            refine O.guard_t rfl rfl ?_
            refine O.ex (Ex.move rfl) rfl ?_
            refine O.guard_t rfl rfl ?_
            refine O.callF Tryd.call18 rfl rfl (CT.mono (qSet_ct (rk := rk) (s := tks rk s2) hT hr hok1 (Holds.to (by assumption))) ?_)
            rintro _ w ⟨rfl, H⟩
            refine O.guard_t rfl rfl ?_
            refine O.ex (Ex.move rfl) rfl ?_
            refine O.guard_t rfl rfl ?_
            refine O.ex (Ex.move rfl) rfl ?_
            refine O.guard_t rfl rfl ?_
            refine O.callF Tryd.call21 rfl rfl (CT.mono (without_ct (Holds.to (by assumption)) (setQ_64 rk s2)) ?_)
            rintro _ w ⟨rfl, H⟩
            refine O.guard_t rfl rfl ?_
            refine O.ex (Ex.eql64 _ _ rfl rfl) rfl ?_
            refine O.ex (Ex.pick_t rfl rfl) rfl ?_
            refine O.ex (Ex.move rfl) rfl ?_
            refine O.known (t := 109) (c := true) rfl (by first | rfl | exact decide_eq_true he | exact decide_eq_false he | exact decide_eq_false (fun h => h he) | exact decide_eq_false (fun h => h hS) | exact decide_eq_true hz | exact hin | exact decide_eq_true hout | exact decide_eq_true hcode | exact decide_eq_true hback) ?_
            refine O.guard_t rfl rfl ?_
            refine O.ex (Ex.move rfl) rfl ?_
            refine O.guard_t rfl rfl ?_
            refine O.ex (Ex.move rfl) rfl ?_
            refine O.guard_t rfl rfl ?_
            refine O.callF Tryd.call11 rfl rfl (CT.mono (qPut_ct (rk := rk) (s := tks rk s2) hr hok1.1 (Holds.to (by assumption))) ?_)
            rintro _ w ⟨rfl, H⟩
            rw [hset] at H
            refine O.guard_t rfl rfl ?_
            refine O.ex (Ex.eqlI rfl rfl) rfl ?_
            refine O.ex (Ex.pick_t rfl rfl) rfl ?_
            refine O.ex (Ex.move rfl) rfl ?_
            refine O.known (t := 115) (c := true) rfl (by first | rfl | exact decide_eq_true he | exact decide_eq_false he | exact decide_eq_false (fun h => h he) | exact decide_eq_false (fun h => h hS) | exact decide_eq_true hz | exact hin | exact decide_eq_true hout | exact decide_eq_true hcode | exact decide_eq_true hback) ?_
            refine O.guard_t rfl rfl ?_
            refine O.ex (Ex.move rfl) rfl ?_
            refine O.guard_t rfl rfl ?_
            refine O.callF Tryd.call18 rfl rfl (CT.mono (qSet_ct (rk := rk) (s := s2) hT hr hok (Holds.to (by assumption))) ?_)
            rintro _ w ⟨rfl, H⟩
            refine O.guard_t rfl rfl ?_
            refine O.ex (Ex.move rfl) rfl ?_
            refine O.guard_t rfl rfl ?_
            refine O.ex (Ex.eql64 _ _ rfl rfl) rfl ?_
            refine O.ex (Ex.pick_t rfl rfl) rfl ?_
            refine O.ex (Ex.move rfl) rfl ?_
            refine O.known (t := 121) (c := true) rfl (by first | rfl | exact decide_eq_true he | exact decide_eq_false he | exact decide_eq_false (fun h => h he) | exact decide_eq_false (fun h => h hS) | exact decide_eq_true hz | exact hin | exact decide_eq_true hout | exact decide_eq_true hcode | exact decide_eq_true hback) ?_
            refine O.guard_t rfl rfl ?_
            refine O.ex (Ex.move rfl) rfl ?_
            refine O.guard_t rfl rfl ?_
            refine O.callF Tryd.call16 rfl rfl (CT.mono (qLen_ct (rk := rk) (s := s2) hok.1 (Holds.to (by assumption))) ?_)
            rintro _ w ⟨rfl, H⟩
            refine O.guard_t rfl rfl ?_
            refine O.ex (Ex.move rfl) rfl ?_
            refine O.guard_t rfl rfl ?_
            refine O.callF Tryd.call22 rfl rfl (CT.mono (len_ct (Holds.to (by assumption)) (setQ_64 rk s2)) ?_)
            rintro _ w ⟨rfl, H⟩
            refine O.guard_t rfl rfl ?_
            refine O.ex (Ex.eqlI rfl rfl) rfl ?_
            refine O.ex (Ex.pick_t rfl rfl) rfl ?_
            refine O.ex (Ex.assign rfl) rfl ?_
            refine O.nil ?_
            refine hK45 _ _ _ ?_
            refine W.ret ?_
            try dsimp only [thenQ, blockQ, retQ]
            first | refine ⟨_, ⟨_, _, rfl, rfl, rfl⟩, ?_⟩ | (refine retD_mark ?_; intro w H; refine ⟨_, ⟨_, _, rfl, rfl, rfl⟩, ?_⟩) | (refine retD_mark2 ?_; intro w H; refine ⟨_, ⟨_, _, rfl, rfl, rfl⟩, ?_⟩)
            exact ⟨by first | rfl | exact congrArg Value.bool (decide_eq_true hz2) | exact congrArg Value.bool (decide_eq_true (by rw [hpop])), Holds.base_below (L := []) (Holds.to (by assumption))⟩
        · have hS := congrArg (setQ rk) (pset_ne he)
          refine O.ex (Ex.move rfl) rfl ?_
          refine O.callF Tryd.call18 rfl rfl (CT.mono (qSet_ct (rk := rk) (s := s) hT hr hok (Holds.to (by assumption))) ?_)
          rintro _ w ⟨rfl, H⟩
          refine O.ex (Ex.assign rfl) rfl ?_
          refine O.nil ?_
          refine hK36 _ _ _ ?_
          refine W.seq (fun K46 hK46 => ?_)
          refine W.region ?_
          refine O.ex (Ex.move rfl) rfl ?_
          refine O.ex (Ex.move rfl) rfl ?_
          refine O.callF Tryd.call11 rfl rfl (CT.mono (qPut_ct (rk := rk) (s := s) hr hok.1 (Holds.to (by assumption))) ?_)
          rintro _ w ⟨rfl, H⟩
          have hok := pset_ok hr hok v
          obtain ⟨s2, hs2⟩ : ∃ s2, s2 = pset rk s v := ⟨_, rfl⟩
          rw [← hs2] at H hok hS
          refine O.ex (Ex.assign rfl) rfl ?_
          refine O.nil ?_
          refine hK46 _ _ _ ?_
          refine W.seq (fun K47 hK47 => ?_)
          refine W.seq (fun K48 hK48 => ?_)
          refine W.region ?_
          refine O.ex (Ex.move rfl) rfl ?_
          refine O.ex (Ex.eqlI rfl rfl) rfl ?_
          refine O.ex (Ex.move rfl) rfl ?_
          refine O.known (t := 64) (c := false) rfl (by first | rfl | exact decide_eq_true he | exact decide_eq_false he | exact decide_eq_false (fun h => h he) | exact decide_eq_false (fun h => h hS) | exact decide_eq_true hz | exact hin | exact decide_eq_true hout | exact decide_eq_true hcode | exact decide_eq_true hback) ?_
          refine O.guard_f rfl rfl rfl rfl ?_
          refine O.guard_f rfl rfl rfl rfl ?_
          refine O.guard_f rfl rfl rfl rfl ?_
          refine O.guard_f rfl rfl rfl rfl ?_
          refine O.guard_f rfl rfl rfl rfl ?_
          refine O.guard_f rfl rfl rfl rfl ?_
          refine O.ex (Ex.pick_f rfl rfl) rfl ?_
          refine O.ex (Ex.move rfl) rfl ?_
          refine O.guard_t rfl rfl ?_
          refine O.ex (Ex.move rfl) rfl ?_
          refine O.guard_t rfl rfl ?_
          refine O.ex (Ex.neqI rfl rfl) rfl ?_
          refine O.guard_t rfl rfl ?_
          refine O.ex (Ex.move rfl) rfl ?_
          refine O.known (t := 75) (c := true) rfl (by first | rfl | exact decide_eq_true he | exact decide_eq_false he | exact decide_eq_false (fun h => h he) | exact decide_eq_false (fun h => h hS) | exact decide_eq_true hz | exact hin | exact decide_eq_true hout | exact decide_eq_true hcode | exact decide_eq_true hback) ?_
          refine O.guard_t rfl rfl ?_
          refine O.ex (Ex.move rfl) rfl ?_
          refine O.guard_t rfl rfl ?_
          refine O.callF Tryd.call18 rfl rfl (CT.mono (qSet_ct (rk := rk) (s := s2) hT hr hok (Holds.to (by assumption))) ?_)
          rintro _ w ⟨rfl, H⟩
          refine O.guard_t rfl rfl ?_
          refine O.ex (Ex.move rfl) rfl ?_
          refine O.guard_t rfl rfl ?_
          refine O.ex (Ex.neq64 _ _ rfl rfl) rfl ?_
          refine O.guard_t rfl rfl ?_
          refine O.ex (Ex.pick_t rfl rfl) rfl ?_
          refine O.ex (Ex.pick_f rfl rfl) rfl ?_
          refine O.nil ?_
          refine hK48 _ _ _ ?_
          refine W.known_f rfl (by first | rfl | exact decide_eq_true he | exact decide_eq_false he | exact decide_eq_false (fun h => h he) | exact decide_eq_false (fun h => h hS) | exact decide_eq_true hz | exact hin | exact decide_eq_true hout | exact decide_eq_true hcode | exact decide_eq_true hback) ?_
          refine W.skip ?_
          refine hK47 _ _ _ ?_
          refine W.seq (fun K49 hK49 => ?_)
          refine W.region ?_
          refine O.ex (Ex.move rfl) rfl ?_
          refine O.callF Tryd.call18 rfl rfl (CT.mono (qSet_ct (rk := rk) (s := s2) hT hr hok (Holds.to (by assumption))) ?_)
          rintro _ w ⟨rfl, H⟩
          refine O.ex (Ex.assign rfl) rfl ?_
          refine O.nil ?_
          refine hK49 _ _ _ ?_
          refine W.seq (fun K50 hK50 => ?_)
          refine W.region ?_
          refine O.ex (Ex.move rfl) rfl ?_
          refine O.callF Tryd.call15 rfl rfl (CT.mono (qTake_ct (rk := rk) (s := s2) hT hr hok (Holds.to (by assumption))) ?_)
          rintro _ w ⟨rfl, H⟩
          have hok1 := tks_ok hok
          refine O.ex (Ex.move rfl) rfl ?_
          refine O.ex (Ex.extract rfl rfl) rfl ?_
          refine O.ex (Ex.extract rfl rfl) rfl ?_
          refine O.ex (Ex.assign rfl) rfl ?_
          refine O.ex (Ex.assign rfl) rfl ?_
          refine O.nil ?_
          refine hK50 _ _ _ ?_
          refine W.seq (fun K51 hK51 => ?_)
          refine W.seq (fun K52 hK52 => ?_)
          refine W.region ?_
          refine O.ex (Ex.move rfl) rfl ?_
          refine O.ex (by first | exact Ex.notD rfl | exact Ex.not rfl) rfl ?_
          refine O.nil ?_
          refine hK52 _ _ _ ?_
          first | refine W.cond_p rfl (fun hzz => ?_) (fun hnz => ?_) | refine W.cond_b rfl (fun hzz => ?_) (fun hnz => ?_)
          · refine W.seq (fun K53 hK53 => ?_)
            refine W.region ?_
            have hs0 : s2 = 0 := Decidable.not_not.1 hzz
            have hz : setQ rk s2 = 0 := by rw [hs0, setQ_zero]
            have hz2 : setQ rk (tks rk s2) = 0 := by rw [hs0, tks_zero, setQ_zero]
            refine O.ex (Ex.move rfl) rfl ?_
            refine O.ex (Ex.eql64 _ 0 rfl rfl) rfl ?_
            refine O.ex (Ex.move rfl) rfl ?_
            refine O.known (t := 93) (c := true) rfl (by first | rfl | exact decide_eq_true he | exact decide_eq_false he | exact decide_eq_false (fun h => h he) | exact decide_eq_false (fun h => h hS) | exact decide_eq_true hz | exact hin | exact decide_eq_true hout | exact decide_eq_true hcode | exact decide_eq_true hback) ?_
            refine O.guard_t rfl rfl ?_
            refine O.ex (Ex.move rfl) rfl ?_
            refine O.guard_t rfl rfl ?_
            refine O.callF Tryd.call18 rfl rfl (CT.mono (qSet_ct (rk := rk) (s := tks rk s2) hT hr hok1 (Holds.to (by assumption))) ?_)
            rintro _ w ⟨rfl, H⟩
            refine O.guard_t rfl rfl ?_
            refine O.ex (Ex.eql64 _ 0 rfl rfl) rfl ?_
            refine O.ex (Ex.pick_t rfl rfl) rfl ?_
            refine O.ex (Ex.assign rfl) rfl ?_
            refine O.nil ?_
            refine hK53 _ _ _ ?_
            refine W.ret ?_
            try dsimp only [thenQ, blockQ, retQ]
            first | refine ⟨_, ⟨_, _, rfl, rfl, rfl⟩, ?_⟩ | (refine retD_mark ?_; intro w H; refine ⟨_, ⟨_, _, rfl, rfl, rfl⟩, ?_⟩) | (refine retD_mark2 ?_; intro w H; refine ⟨_, ⟨_, _, rfl, rfl, rfl⟩, ?_⟩)
            exact ⟨by first | rfl | exact congrArg Value.bool (decide_eq_true hz2) | exact congrArg Value.bool (decide_eq_true (by rw [hpop])), Holds.base_below (L := []) (Holds.to (by assumption))⟩
          · refine W.skip ?_
            refine hK51 _ _ _ ?_
            refine W.seq (fun K54 hK54 => ?_)
            refine W.region ?_
            have h0 : s2 ≠ 0 := Decidable.not_not.1 hnz
            obtain ⟨hin, hout⟩ := setQ_out hr hok h0
            obtain ⟨hcode, hset⟩ := put_back hr hok h0
            have hback : setQ rk s2 = setQ rk s2 := rfl
            have hpop := pop_setQ hr hok
            refine O.ex (Ex.move rfl) rfl ?_
            refine O.ex (Ex.move rfl) rfl ?_
            refine O.callF Tryd.call20 rfl rfl (CT.mono (has_ct (Holds.to (by assumption)) (setQ_64 rk s2)) ?_)
            rintro _ w ⟨rfl, H⟩
            refine O.ex (Ex.move rfl) rfl ?_
            refine O.known (t := 101) (c := true) rfl (by first | rfl | exact decide_eq_true he | exact decide_eq_false he | exact decide_eq_false (fun h => h he) | exact decide_eq_false (fun h => h hS) | exact decide_eq_true hz | exact hin | exact decide_eq_true hout | exact decide_eq_true hcode | exact decide_eq_true hback) ?_
            refine O.guard_t rfl rfl ?_
            refine O.ex (Ex.move rfl) rfl ?_
            refine O.guard_t rfl rfl ?_
            refine O.callF Tryd.call18 rfl rfl (CT.mono (qSet_ct (rk := rk) (s := tks rk s2) hT hr hok1 (Holds.to (by assumption))) ?_)
            rintro _ w ⟨rfl, H⟩
            refine O.guard_t rfl rfl ?_
            refine O.ex (Ex.move rfl) rfl ?_
            refine O.guard_t rfl rfl ?_
            refine O.ex (Ex.move rfl) rfl ?_
            refine O.guard_t rfl rfl ?_
            refine O.callF Tryd.call21 rfl rfl (CT.mono (without_ct (Holds.to (by assumption)) (setQ_64 rk s2)) ?_)
            rintro _ w ⟨rfl, H⟩
            refine O.guard_t rfl rfl ?_
            refine O.ex (Ex.eql64 _ _ rfl rfl) rfl ?_
            refine O.ex (Ex.pick_t rfl rfl) rfl ?_
            refine O.ex (Ex.move rfl) rfl ?_
            refine O.known (t := 109) (c := true) rfl (by first | rfl | exact decide_eq_true he | exact decide_eq_false he | exact decide_eq_false (fun h => h he) | exact decide_eq_false (fun h => h hS) | exact decide_eq_true hz | exact hin | exact decide_eq_true hout | exact decide_eq_true hcode | exact decide_eq_true hback) ?_
            refine O.guard_t rfl rfl ?_
            refine O.ex (Ex.move rfl) rfl ?_
            refine O.guard_t rfl rfl ?_
            refine O.ex (Ex.move rfl) rfl ?_
            refine O.guard_t rfl rfl ?_
            refine O.callF Tryd.call11 rfl rfl (CT.mono (qPut_ct (rk := rk) (s := tks rk s2) hr hok1.1 (Holds.to (by assumption))) ?_)
            rintro _ w ⟨rfl, H⟩
            rw [hset] at H
            refine O.guard_t rfl rfl ?_
            refine O.ex (Ex.eqlI rfl rfl) rfl ?_
            refine O.ex (Ex.pick_t rfl rfl) rfl ?_
            refine O.ex (Ex.move rfl) rfl ?_
            refine O.known (t := 115) (c := true) rfl (by first | rfl | exact decide_eq_true he | exact decide_eq_false he | exact decide_eq_false (fun h => h he) | exact decide_eq_false (fun h => h hS) | exact decide_eq_true hz | exact hin | exact decide_eq_true hout | exact decide_eq_true hcode | exact decide_eq_true hback) ?_
            refine O.guard_t rfl rfl ?_
            refine O.ex (Ex.move rfl) rfl ?_
            refine O.guard_t rfl rfl ?_
            refine O.callF Tryd.call18 rfl rfl (CT.mono (qSet_ct (rk := rk) (s := s2) hT hr hok (Holds.to (by assumption))) ?_)
            rintro _ w ⟨rfl, H⟩
            refine O.guard_t rfl rfl ?_
            refine O.ex (Ex.move rfl) rfl ?_
            refine O.guard_t rfl rfl ?_
            refine O.ex (Ex.eql64 _ _ rfl rfl) rfl ?_
            refine O.ex (Ex.pick_t rfl rfl) rfl ?_
            refine O.ex (Ex.move rfl) rfl ?_
            refine O.known (t := 121) (c := true) rfl (by first | rfl | exact decide_eq_true he | exact decide_eq_false he | exact decide_eq_false (fun h => h he) | exact decide_eq_false (fun h => h hS) | exact decide_eq_true hz | exact hin | exact decide_eq_true hout | exact decide_eq_true hcode | exact decide_eq_true hback) ?_
            refine O.guard_t rfl rfl ?_
            refine O.ex (Ex.move rfl) rfl ?_
            refine O.guard_t rfl rfl ?_
            refine O.callF Tryd.call16 rfl rfl (CT.mono (qLen_ct (rk := rk) (s := s2) hok.1 (Holds.to (by assumption))) ?_)
            rintro _ w ⟨rfl, H⟩
            refine O.guard_t rfl rfl ?_
            refine O.ex (Ex.move rfl) rfl ?_
            refine O.guard_t rfl rfl ?_
            refine O.callF Tryd.call22 rfl rfl (CT.mono (len_ct (Holds.to (by assumption)) (setQ_64 rk s2)) ?_)
            rintro _ w ⟨rfl, H⟩
            refine O.guard_t rfl rfl ?_
            refine O.ex (Ex.eqlI rfl rfl) rfl ?_
            refine O.ex (Ex.pick_t rfl rfl) rfl ?_
            refine O.ex (Ex.assign rfl) rfl ?_
            refine O.nil ?_
            refine hK54 _ _ _ ?_
            refine W.ret ?_
            try dsimp only [thenQ, blockQ, retQ]
            first | refine ⟨_, ⟨_, _, rfl, rfl, rfl⟩, ?_⟩ | (refine retD_mark ?_; intro w H; refine ⟨_, ⟨_, _, rfl, rfl, rfl⟩, ?_⟩) | (refine retD_mark2 ?_; intro w H; refine ⟨_, ⟨_, _, rfl, rfl, rfl⟩, ?_⟩)
            exact ⟨by first | rfl | exact congrArg Value.bool (decide_eq_true hz2) | exact congrArg Value.bool (decide_eq_true (by rw [hpop])), Holds.base_below (L := []) (Holds.to (by assumption))⟩
theorem markApart_row {w0 : World} {rv pv : Value} {rk ps : List Int} {v : Int} (hT : TabAt w0) (hx : SlIn w0 1 (fun s : Int => [.int .i64 s]) rv rk) (hg : ∀ x ∈ rk, (Lit.int .i64 x).wf = true) (hlr : rk.length ≤ maxLen) (hx2 : SlIn w0 1 (fun s : Int => [.int .i64 s]) pv ps) (hg2 : ∀ x ∈ ps, (Lit.int .i64 x).wf = true) (hlp : ps.length ≤ maxLen) (hv : (Lit.int .i64 v).wf = true) :
    CT Tryd.prog 4 [rv, pv, .int .i64 v] w0 fun u w' => u = .bool true ∧ RowKit.Below w0.heap.size w0 w' :=
  markApart_ct hT hx (by unfold maxLen at hlr; omega) hx2 (by unfold maxLen at hlp; omega)
end Go.Proofs.YtgbhccpjpimgfaaDoor
