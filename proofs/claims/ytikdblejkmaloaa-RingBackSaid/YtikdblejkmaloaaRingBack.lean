import Derived.Test.YtikdblejkmaloaaRing06
namespace Go.Proofs.Ytikdblejkmaloaa
open Go.Rr Go
set_option linter.unusedVariables false
set_option maxHeartbeats 1000000 in
theorem ringBack_ct {w0 : World} {lv : Value} {l : List Int} {m : Int} (hm : (Lit.int .u8 m).wf = true) (hx : SlIn w0 1 (fun s : Int => [.int .i64 s]) lv l) (hl0 : l.length ≤ 9223372036854775807) :
    CT Try.prog 8 [.int .u8 m, lv] w0 fun u w' => u = .bool true ∧ RowKit.Below w0.heap.size w0 w' := by
  have H := Holds.base_refl w0
  obtain ⟨m0, m1⟩ := bounds_u8 hm
  refine CT.enter (N := 115) Try.func8 rfl rfl rfl rfl ?_
  refine W.seq (fun K0 hK0 => ?_)
  refine W.region ?_
  refine O.ex (Ex.assign rfl) rfl ?_
  refine O.nil ?_
  refine hK0 _ _ _ ?_
  refine W.seq (fun K1 hK1 => ?_)
  refine W.seq (fun K2 hK2 => ?_)
  refine W.region ?_
  refine O.callF Try.call27 rfl rfl (CT.mono (awake06_ct (by assumption)) ?_)
  rintro _ w ⟨rfl, H⟩
  refine O.ex (by first | exact Ex.notD rfl | exact Ex.not rfl) rfl ?_
  refine O.nil ?_
  refine hK2 _ _ _ ?_
  refine W.known_f rfl (by first | rfl | decide | (refine decide_eq_false ?_; omega) | (simp; omega) | exact decide_eq_false (fun hh => hh rfl) | (refine decide_eq_false (fun hh => hh ?_); rw [hix])) ?_
  refine W.skip ?_
  refine hK1 _ _ _ ?_
  refine W.seq (fun K3 hK3 => ?_)
  refine W.seq (fun K4 hK4 => ?_)
  refine W.region ?_
  refine O.ex (Ex.move rfl) rfl ?_
  refine O.ex (by first | exact Ex.lenR Try.runUnderlying52 rfl | exact Ex.lenIn Try.runUnderlying52 rfl | exact Ex.lenL Try.runUnderlying52 rfl | exact Ex.len rfl Try.runUnderlying52 rfl) rfl ?_
  refine O.ex (Ex.gtr rfl rfl) rfl ?_
  refine O.nil ?_
  refine hK4 _ _ _ ?_
  first | refine W.cond_p rfl (fun hbig => ?_) (fun hle => ?_) | refine W.cond_b rfl (fun hbig => ?_) (fun hle => ?_)
  · refine W.seq (fun K5 hK5 => ?_)
    refine W.region ?_
    refine O.ex (Ex.assign rfl) rfl ?_
    refine O.nil ?_
    refine hK5 _ _ _ ?_
    refine W.ret ?_
    try dsimp only [thenQ, blockQ, retQ]
    first | refine ⟨_, ⟨_, _, rfl, rfl, rfl⟩, ?_⟩ | (refine retD_mark ?_; intro w H; refine ⟨_, ⟨_, _, rfl, rfl, rfl⟩, ?_⟩) | (refine retD_mark2 ?_; intro w H; refine ⟨_, ⟨_, _, rfl, rfl, rfl⟩, ?_⟩)
    exact ⟨by first | rfl | exact congrArg Value.bool (by decide), Holds.base_below (L := []) (Holds.to (by assumption))⟩
  · refine W.skip ?_
    refine hK3 _ _ _ ?_
    refine W.seq (fun K6 hK6 => ?_)
    refine W.region ?_
    refine O.ex (Ex.move rfl) rfl ?_
    refine O.ex (by first | exact Ex.convToI Try.runUnderlying5 Try.runUnderlying3 rfl | exact Ex.convW Try.runUnderlying5 Try.runUnderlying3 rfl) rfl ?_
    refine O.ex (by first | exact Ex.remI rfl rfl | exact Ex.rem rfl rfl (by omega) rfl) rfl ?_
    refine O.ex (by first | exact Ex.addI rfl rfl | exact Ex.add rfl rfl rfl) rfl ?_
    refine O.ex (Ex.assign rfl) rfl ?_
    refine O.nil ?_
    refine hK6 _ _ _ ?_
    refine W.seq (fun K7 hK7 => ?_)
    refine W.region ?_
    obtain ⟨n, hn⟩ : ∃ n : Nat, (1 : Int) + m % 32 = n := ⟨(1 + m % 32).toNat, by omega⟩
    have hn0 : 0 < n := by omega
    have hn32 : n ≤ 32 := by omega
    rw [hn]
    refine O.ex (Ex.move rfl) rfl ?_
    refine O.callF Try.call28 rfl rfl (CT.mono (newIG_ct (n := (n : Int)) (by assumption)) ?_)
    rintro _ w (⟨hx, -⟩ | ⟨-, s, rfl, H⟩)
    · exact absurd (by omega) hx
    rw [Int.toNat_natCast] at H
    refine O.ex (Ex.move rfl) rfl ?_
    refine O.ex (Ex.extract rfl rfl) rfl ?_
    refine O.ex (Ex.extract rfl rfl) rfl ?_
    refine O.ex (Ex.assign rfl) rfl ?_
    refine O.ex (Ex.assign rfl) rfl ?_
    refine O.nil ?_
    refine hK7 _ _ _ ?_
    refine W.seq (fun K8 hK8 => ?_)
    refine W.seq (fun K9 hK9 => ?_)
    refine W.region ?_
    refine O.ex (Ex.move rfl) rfl ?_
    refine O.ex (Ex.nilEq Try.runUnderlying58 rfl rfl) rfl ?_
    refine O.nil ?_
    refine hK9 _ _ _ ?_
    refine W.known_f rfl (by first | rfl | decide | (refine decide_eq_false ?_; omega) | (simp; omega) | exact decide_eq_false (fun hh => hh rfl) | (refine decide_eq_false (fun hh => hh ?_); rw [hix])) ?_
    refine W.skip ?_
    refine hK8 _ _ _ ?_
    refine W.seq (fun K10 hK10 => ?_)
    refine W.seq (fun K11 hK11 => ?_)
    refine W.region ?_
    refine O.ex (Ex.assign rfl) rfl ?_
    refine O.nil ?_
    refine hK11 _ _ _ ?_
    refine W.block ?_
    have hw0 : win l 0 n = [] := by simp [win]
    rw [← hw0] at H
    refine W.loop (σ := Nat) (fun i => [(1, lv), (5, .int .i64 n), (6, .pointer (some ⟨s, 0, none⟩)), (8, .int .i64 (i : Int))]) (fun i ds w => ds = [] ∧ i ≤ l.length ∧ Holds w [RgI s n (win l i n), base w0]) (fun i => l.length - i) 0 ⟨rfl, rfl, rfl, rfl, trivial⟩ ⟨rfl, by omega, Holds.to (by assumption)⟩ ?_
    clear H
    rintro i _ w ⟨rfl, hi, H⟩
    refine W.seq (fun K12 hK12 => ?_)
    refine W.seq (fun K13 hK13 => ?_)
    refine W.region ?_
    refine O.ex (Ex.move rfl) rfl ?_
    refine O.ex (Ex.move rfl) rfl ?_
    refine O.ex (by first | exact Ex.lenR Try.runUnderlying52 rfl | exact Ex.lenIn Try.runUnderlying52 rfl | exact Ex.lenL Try.runUnderlying52 rfl | exact Ex.len rfl Try.runUnderlying52 rfl) rfl ?_
    refine O.ex (Ex.lss rfl rfl) rfl ?_
    refine O.nil ?_
    refine hK13 _ _ _ ?_
    first | refine W.cond_p rfl (fun hlt => ?_) (fun hge => ?_) | refine W.cond_b rfl (fun hlt => ?_) (fun hge => ?_)
    · refine W.skip ?_
      refine hK12 _ _ _ ?_
      refine W.seq (fun K14 hK14 => ?_)
      refine W.block ?_
      refine W.seq (fun K15 hK15 => ?_)
      refine W.region ?_
      refine O.ex (Ex.move rfl) rfl ?_
      refine O.ex (Ex.move rfl) rfl ?_
      refine O.ex (Ex.move rfl) rfl ?_
      refine O.ex (by first | exact Ex.idxR Try.runUnderlying52 Try.sizeOf3 rfl rfl | exact Ex.idxIn Try.runUnderlying52 Try.sizeOf3 rfl rfl | exact Ex.idxS Try.runUnderlying52 Try.sizeOf3 rfl rfl | exact Ex.idx Try.runUnderlying52 Try.sizeOf3 rfl rfl (by omega) (by omega)) rfl ?_
      refine O.ex (by first | exact Ex.loadP Try.isAgg3 rfl | exact Ex.loadR Try.isAgg3 rfl | exact Ex.loadIn1 Try.isAgg3 rfl (Holds.to (by assumption))) rfl ?_
      refine O.callF Try.call31 rfl rfl (CT.mono (pushWI_ct (i := i) (Holds.to (by assumption)) (by omega) hn0) ?_)
      rintro _ w ⟨hx3, H⟩
      rcases hx3 with ⟨hlt2, rfl⟩ | ⟨hge2, rfl⟩
      · refine O.ex (Ex.move rfl) rfl ?_
        refine O.ex (Ex.extract rfl rfl) rfl ?_
        refine O.ex (Ex.extract rfl rfl) rfl ?_
        refine O.ex (Ex.assign rfl) rfl ?_
        refine O.ex (Ex.assign rfl) rfl ?_
        refine O.nil ?_
        refine hK15 _ _ _ ?_
        refine W.seq (fun K16 hK16 => ?_)
        refine W.region ?_
        refine O.ex (Ex.move rfl) rfl ?_
        refine O.ex (Ex.move rfl) rfl ?_
        refine O.ex (Ex.move rfl) rfl ?_
        refine O.ex (Ex.geq rfl rfl) rfl ?_
        refine O.ex (Ex.neqB Try.runUnderlying4 rfl rfl) rfl ?_
        refine O.ex (Ex.move rfl) rfl ?_
        refine O.known (t := 52) (c := false) rfl (by first | rfl | decide | (refine decide_eq_false ?_; omega) | (simp; omega) | exact decide_eq_false (fun hh => hh rfl) | (refine decide_eq_false (fun hh => hh ?_); rw [hix])) ?_
        refine O.guard_t rfl rfl ?_
        refine O.ex (Ex.move rfl) rfl ?_
        refine O.guard_t rfl rfl ?_
        refine O.ex (Ex.move rfl) rfl ?_
        refine O.known (t := 54) (c := false) rfl (by first | rfl | decide | (refine decide_eq_false ?_; omega) | (simp; omega) | exact decide_eq_false (fun hh => hh rfl) | (refine decide_eq_false (fun hh => hh ?_); rw [hix])) ?_
        refine O.guard_f rfl rfl rfl rfl ?_
        refine O.guard_f rfl rfl rfl rfl ?_
        refine O.guard_f rfl rfl rfl rfl ?_
        refine O.guard_f rfl rfl rfl rfl ?_
        refine O.guard_f rfl rfl rfl rfl ?_
        refine O.guard_f rfl rfl rfl rfl ?_
        refine O.guard_f rfl rfl rfl rfl ?_
        refine O.guard_f rfl rfl rfl rfl ?_
        refine O.guard_t rfl rfl ?_
        refine O.ex (Ex.pick_f rfl rfl) rfl ?_
        refine O.ex (Ex.pick_f rfl rfl) rfl ?_
        refine O.ex (Ex.move rfl) rfl ?_
        refine O.guard_t rfl rfl ?_
        refine O.ex (Ex.move rfl) rfl ?_
        refine O.guard_t rfl rfl ?_
        refine O.ex (by first | exact Ex.notD rfl | exact Ex.not rfl) rfl ?_
        refine O.guard_t rfl rfl ?_
        refine O.ex (Ex.move rfl) rfl ?_
        refine O.known (t := 68) (c := true) rfl (by first | rfl | decide | (refine decide_eq_false ?_; omega) | (simp; omega) | exact decide_eq_false (fun hh => hh rfl) | (refine decide_eq_false (fun hh => hh ?_); rw [hix])) ?_
        refine O.guard_t rfl rfl ?_
        refine O.ex (Ex.move rfl) rfl ?_
        refine O.guard_t rfl rfl ?_
        refine O.ex (Ex.neqI rfl rfl) rfl ?_
        refine O.guard_t rfl rfl ?_
        refine O.ex (Ex.pick_t rfl rfl) rfl ?_
        refine O.ex (Ex.pick_f rfl rfl) rfl ?_
        refine O.nil ?_
        refine hK16 _ _ _ ?_
        refine W.known_f rfl (by first | rfl | decide | (refine decide_eq_false ?_; omega) | (simp; omega) | exact decide_eq_false (fun hh => hh rfl) | (refine decide_eq_false (fun hh => hh ?_); rw [hix])) ?_
        refine W.skip ?_
        refine hK14 _ _ _ ?_
        refine W.region ?_
        refine O.ex (Ex.move rfl) rfl ?_
        refine O.ex (by first | exact Ex.addI rfl rfl | exact Ex.add rfl rfl rfl) rfl ?_
        refine O.ex (Ex.assign rfl) rfl ?_
        refine O.nil ?_
        exact ⟨i + 1, ⟨rfl, rfl, rfl, rfl, trivial⟩, ⟨rfl, by omega, Holds.to (by assumption)⟩, by omega⟩
      · have hix : ((i : Int) - n).toNat = i - n := by omega
        refine O.ex (Ex.move rfl) rfl ?_
        refine O.ex (Ex.extract rfl rfl) rfl ?_
        refine O.ex (Ex.extract rfl rfl) rfl ?_
        refine O.ex (Ex.assign rfl) rfl ?_
        refine O.ex (Ex.assign rfl) rfl ?_
        refine O.nil ?_
        refine hK15 _ _ _ ?_
        refine W.seq (fun K17 hK17 => ?_)
        refine W.region ?_
        refine O.ex (Ex.move rfl) rfl ?_
        refine O.ex (Ex.move rfl) rfl ?_
        refine O.ex (Ex.move rfl) rfl ?_
        refine O.ex (Ex.geq rfl rfl) rfl ?_
        refine O.ex (Ex.neqB Try.runUnderlying4 rfl rfl) rfl ?_
        refine O.ex (Ex.move rfl) rfl ?_
        refine O.known (t := 52) (c := false) rfl (by first | rfl | decide | (refine decide_eq_false ?_; omega) | (simp; omega) | exact decide_eq_false (fun hh => hh rfl) | (refine decide_eq_false (fun hh => hh ?_); rw [hix])) ?_
        refine O.guard_t rfl rfl ?_
        refine O.ex (Ex.move rfl) rfl ?_
        refine O.guard_t rfl rfl ?_
        refine O.ex (Ex.move rfl) rfl ?_
        refine O.known (t := 54) (c := true) rfl (by first | rfl | decide | (refine decide_eq_false ?_; omega) | (simp; omega) | exact decide_eq_false (fun hh => hh rfl) | (refine decide_eq_false (fun hh => hh ?_); rw [hix])) ?_
        refine O.guard_t rfl rfl ?_
        refine O.ex (Ex.move rfl) rfl ?_
        refine O.guard_t rfl rfl ?_
        refine O.ex (Ex.move rfl) rfl ?_
        refine O.guard_t rfl rfl ?_
        refine O.ex (Ex.move rfl) rfl ?_
        refine O.guard_t rfl rfl ?_
        refine O.ex (Ex.move rfl) rfl ?_
        refine O.guard_t rfl rfl ?_
        refine O.ex (by first | exact Ex.subI rfl rfl | exact Ex.sub rfl rfl rfl) rfl ?_
        refine O.guard_t rfl rfl ?_
        refine O.ex (by first | exact Ex.idxR Try.runUnderlying52 Try.sizeOf3 rfl rfl | exact Ex.idxIn Try.runUnderlying52 Try.sizeOf3 rfl rfl | exact Ex.idxS Try.runUnderlying52 Try.sizeOf3 rfl rfl | exact Ex.idx Try.runUnderlying52 Try.sizeOf3 rfl rfl (by omega) (by omega)) rfl ?_
        refine O.guard_t rfl rfl ?_
        refine O.ex (by first | exact Ex.loadP Try.isAgg3 rfl | exact Ex.loadR Try.isAgg3 rfl | exact Ex.loadIn1 Try.isAgg3 rfl (Holds.to (by assumption))) rfl ?_
        refine O.guard_t rfl rfl ?_
        refine O.ex (Ex.neqI rfl rfl) rfl ?_
        refine O.guard_t rfl rfl ?_
        refine O.ex (Ex.pick_t rfl rfl) rfl ?_
        refine O.ex (Ex.pick_f rfl rfl) rfl ?_
        refine O.ex (Ex.move rfl) rfl ?_
        refine O.known (t := 65) (c := false) rfl (by first | rfl | decide | (refine decide_eq_false ?_; omega) | (simp; omega) | exact decide_eq_false (fun hh => hh rfl) | (refine decide_eq_false (fun hh => hh ?_); rw [hix])) ?_
        refine O.guard_t rfl rfl ?_
        refine O.ex (Ex.move rfl) rfl ?_
        refine O.guard_t rfl rfl ?_
        refine O.ex (by first | exact Ex.notD rfl | exact Ex.not rfl) rfl ?_
        refine O.guard_t rfl rfl ?_
        refine O.ex (Ex.move rfl) rfl ?_
        refine O.known (t := 68) (c := false) rfl (by first | rfl | decide | (refine decide_eq_false ?_; omega) | (simp; omega) | exact decide_eq_false (fun hh => hh rfl) | (refine decide_eq_false (fun hh => hh ?_); rw [hix])) ?_
        refine O.guard_f rfl rfl rfl rfl ?_
        refine O.guard_f rfl rfl rfl rfl ?_
        refine O.guard_t rfl rfl ?_
        refine O.ex (Ex.pick_f rfl rfl) rfl ?_
        refine O.ex (Ex.pick_f rfl rfl) rfl ?_
        refine O.nil ?_
        refine hK17 _ _ _ ?_
        refine W.cond_f rfl ?_
        refine W.skip ?_
        refine hK14 _ _ _ ?_
        refine W.region ?_
        refine O.ex (Ex.move rfl) rfl ?_
        refine O.ex (by first | exact Ex.addI rfl rfl | exact Ex.add rfl rfl rfl) rfl ?_
        refine O.ex (Ex.assign rfl) rfl ?_
        refine O.nil ?_
        exact ⟨i + 1, ⟨rfl, rfl, rfl, rfl, trivial⟩, ⟨rfl, by omega, Holds.to (by assumption)⟩, by omega⟩
    · refine W.exit ?_
      refine hK10 _ _ _ ?_
      refine W.seq (fun K18 hK18 => ?_)
      refine W.seq (fun K19 hK19 => ?_)
      refine W.region ?_
      obtain rfl : i = l.length := by omega
      refine O.ex (Ex.move rfl) rfl ?_
      refine O.ex (by first | exact Ex.lenR Try.runUnderlying52 rfl | exact Ex.lenIn Try.runUnderlying52 rfl | exact Ex.lenL Try.runUnderlying52 rfl | exact Ex.len rfl Try.runUnderlying52 rfl) rfl ?_
      refine O.ex (by first | exact Ex.subI rfl rfl | exact Ex.sub rfl rfl rfl) rfl ?_
      refine O.ex (Ex.assign rfl) rfl ?_
      refine O.nil ?_
      refine hK19 _ _ _ ?_
      refine W.block ?_
      have hw1 : win l l.length n = (l.take l.length).drop (l.length - n) := rfl
      rw [hw1] at H
      refine W.loop (σ := Nat) (fun p => [(1, lv), (5, .int .i64 n), (6, .pointer (some ⟨s, 0, none⟩)), (11, .int .i64 ((p : Int) - 1))]) (fun p ds w => ds = [] ∧ p ≤ l.length ∧ Holds w [RgI s n ((l.take p).drop (l.length - n)), base w0]) (fun p => p) l.length ⟨rfl, rfl, rfl, rfl, trivial⟩ ⟨rfl, by omega, Holds.to (by assumption)⟩ ?_
      clear H
      rintro p _ w ⟨rfl, hp, H⟩
      refine W.seq (fun K20 hK20 => ?_)
      refine W.seq (fun K21 hK21 => ?_)
      refine W.region ?_
      refine O.ex (Ex.move rfl) rfl ?_
      refine O.ex (Ex.geq rfl rfl) rfl ?_
      refine O.ex (Ex.move rfl) rfl ?_
      first | refine O.split_p (t := 78) rfl (fun hA => ?_) (fun hA => ?_) | refine O.split (t := 78) rfl (fun hA => ?_) (fun hA => ?_)
      · refine O.guard_t rfl rfl ?_
        refine O.ex (Ex.move rfl) rfl ?_
        refine O.guard_t rfl rfl ?_
        refine O.ex (Ex.move rfl) rfl ?_
        refine O.guard_t rfl rfl ?_
        refine O.ex (by first | exact Ex.lenR Try.runUnderlying52 rfl | exact Ex.lenIn Try.runUnderlying52 rfl | exact Ex.lenL Try.runUnderlying52 rfl | exact Ex.len rfl Try.runUnderlying52 rfl) rfl ?_
        refine O.guard_t rfl rfl ?_
        refine O.ex (Ex.move rfl) rfl ?_
        refine O.guard_t rfl rfl ?_
        refine O.ex (by first | exact Ex.subI rfl rfl | exact Ex.sub rfl rfl rfl) rfl ?_
        refine O.guard_t rfl rfl ?_
        refine O.ex (Ex.geq rfl rfl) rfl ?_
        refine O.ex (Ex.pick_t rfl rfl) rfl ?_
        refine O.nil ?_
        refine hK21 _ _ _ ?_
        first | refine W.cond_p rfl (fun hB => ?_) (fun hB => ?_) | refine W.cond_b rfl (fun hB => ?_) (fun hB => ?_)
        · refine W.skip ?_
          refine hK20 _ _ _ ?_
          refine W.seq (fun K22 hK22 => ?_)
          refine W.block ?_
          refine W.seq (fun K23 hK23 => ?_)
          refine W.region ?_
          refine O.ex (Ex.move rfl) rfl ?_
          refine O.callF Try.call29 rfl rfl (CT.mono (popW_ct (p := p) (Holds.to (by assumption)) (by omega) (by omega)) ?_)
          rintro _ w ⟨rfl, H⟩
          refine O.ex (Ex.move rfl) rfl ?_
          refine O.ex (Ex.extract rfl rfl) rfl ?_
          refine O.ex (Ex.extract rfl rfl) rfl ?_
          refine O.ex (Ex.assign rfl) rfl ?_
          refine O.ex (Ex.assign rfl) rfl ?_
          refine O.nil ?_
          refine hK23 _ _ _ ?_
          refine W.seq (fun K24 hK24 => ?_)
          refine W.region ?_
          have hix : ((p : Int) - 1).toNat = p - 1 := by omega
          refine O.ex (Ex.move rfl) rfl ?_
          refine O.ex (by first | exact Ex.notD rfl | exact Ex.not rfl) rfl ?_
          refine O.ex (Ex.move rfl) rfl ?_
          refine O.known (t := 95) (c := false) rfl (by first | rfl | decide | (refine decide_eq_false ?_; omega) | (simp; omega) | exact decide_eq_false (fun hh => hh rfl) | (refine decide_eq_false (fun hh => hh ?_); rw [hix])) ?_
          refine O.guard_t rfl rfl ?_
          refine O.ex (Ex.move rfl) rfl ?_
          refine O.guard_t rfl rfl ?_
          refine O.ex (Ex.move rfl) rfl ?_
          refine O.guard_t rfl rfl ?_
          refine O.ex (Ex.move rfl) rfl ?_
          refine O.guard_t rfl rfl ?_
          refine O.ex (by first | exact Ex.idxR Try.runUnderlying52 Try.sizeOf3 rfl rfl | exact Ex.idxIn Try.runUnderlying52 Try.sizeOf3 rfl rfl | exact Ex.idxS Try.runUnderlying52 Try.sizeOf3 rfl rfl | exact Ex.idx Try.runUnderlying52 Try.sizeOf3 rfl rfl (by omega) (by omega)) rfl ?_
          refine O.guard_t rfl rfl ?_
          refine O.ex (by first | exact Ex.loadP Try.isAgg3 rfl | exact Ex.loadR Try.isAgg3 rfl | exact Ex.loadIn1 Try.isAgg3 rfl (Holds.to (by assumption))) rfl ?_
          refine O.guard_t rfl rfl ?_
          refine O.ex (Ex.neqI rfl rfl) rfl ?_
          refine O.ex (Ex.pick_f rfl rfl) rfl ?_
          refine O.nil ?_
          refine hK24 _ _ _ ?_
          refine W.known_f rfl (by first | rfl | decide | (refine decide_eq_false ?_; omega) | (simp; omega) | exact decide_eq_false (fun hh => hh rfl) | (refine decide_eq_false (fun hh => hh ?_); rw [hix])) ?_
          refine W.skip ?_
          refine hK22 _ _ _ ?_
          refine W.region ?_
          refine O.ex (Ex.move rfl) rfl ?_
          refine O.ex (by first | exact Ex.subI rfl rfl | exact Ex.sub rfl rfl rfl) rfl ?_
          refine O.ex (Ex.assign rfl) rfl ?_
          refine O.nil ?_
          exact ⟨p - 1, ⟨rfl, rfl, rfl, by rw [show (((p - 1 : Nat) : Int) - 1) = (p : Int) - 1 - 1 from by omega]; rfl, trivial⟩, ⟨rfl, by omega, Holds.to (by assumption)⟩, by omega⟩
        · refine W.exit ?_
          refine hK18 _ _ _ ?_
          refine W.seq (fun K25 hK25 => ?_)
          refine W.region ?_
          have hnil : (l.take p).drop (l.length - n) = [] := List.length_eq_zero_iff.1 (by simp; omega)
          rw [hnil] at H
          refine O.ex (Ex.move rfl) rfl ?_
          refine O.callF Try.call29 rfl rfl (CT.mono (popI_ct (Holds.to (by assumption))) ?_)
          rintro _ w ⟨rfl, H⟩
          refine O.ex (Ex.move rfl) rfl ?_
          refine O.ex (Ex.extract rfl rfl) rfl ?_
          refine O.ex (Ex.extract rfl rfl) rfl ?_
          refine O.ex (Ex.assign rfl) rfl ?_
          refine O.ex (Ex.assign rfl) rfl ?_
          refine O.nil ?_
          refine hK25 _ _ _ ?_
          refine W.seq (fun K26 hK26 => ?_)
          refine W.region ?_
          refine O.ex (Ex.move rfl) rfl ?_
          refine O.ex (by first | exact Ex.notD rfl | exact Ex.not rfl) rfl ?_
          refine O.ex (Ex.move rfl) rfl ?_
          refine O.known (t := 110) (c := true) rfl (by first | rfl | decide | (refine decide_eq_false ?_; omega) | (simp; omega) | exact decide_eq_false (fun hh => hh rfl) | (refine decide_eq_false (fun hh => hh ?_); rw [hix])) ?_
          refine O.guard_t rfl rfl ?_
          refine O.ex (Ex.move rfl) rfl ?_
          refine O.guard_t rfl rfl ?_
          refine O.callF Try.call35 rfl rfl (CT.mono (lenIG_ct (Holds.to (by assumption))) ?_)
          rintro _ w ⟨rfl, H⟩
          refine O.guard_t rfl rfl ?_
          refine O.ex (Ex.eqlI rfl rfl) rfl ?_
          refine O.ex (Ex.pick_t rfl rfl) rfl ?_
          refine O.ex (Ex.assign rfl) rfl ?_
          refine O.nil ?_
          refine hK26 _ _ _ ?_
          refine W.ret ?_
          try dsimp only [thenQ, blockQ, retQ]
          first | refine ⟨_, ⟨_, _, rfl, rfl, rfl⟩, ?_⟩ | (refine retD_mark ?_; intro w H; refine ⟨_, ⟨_, _, rfl, rfl, rfl⟩, ?_⟩) | (refine retD_mark2 ?_; intro w H; refine ⟨_, ⟨_, _, rfl, rfl, rfl⟩, ?_⟩)
          exact ⟨by first | rfl | exact congrArg Value.bool (by decide), Holds.base_below (L := []) (Holds.to (by assumption))⟩
      · refine O.guard_f rfl rfl rfl rfl ?_
        refine O.guard_f rfl rfl rfl rfl ?_
        refine O.guard_f rfl rfl rfl rfl ?_
        refine O.guard_f rfl rfl rfl rfl ?_
        refine O.guard_f rfl rfl rfl rfl ?_
        refine O.guard_f rfl rfl rfl rfl ?_
        refine O.ex (Ex.pick_f rfl rfl) rfl ?_
        refine O.nil ?_
        refine hK21 _ _ _ ?_
        refine W.cond_f rfl ?_
        refine W.exit ?_
        refine hK18 _ _ _ ?_
        refine W.seq (fun K27 hK27 => ?_)
        refine W.region ?_
        have hnil : (l.take p).drop (l.length - n) = [] := List.length_eq_zero_iff.1 (by simp; omega)
        rw [hnil] at H
        refine O.ex (Ex.move rfl) rfl ?_
        refine O.callF Try.call29 rfl rfl (CT.mono (popI_ct (Holds.to (by assumption))) ?_)
        rintro _ w ⟨rfl, H⟩
        refine O.ex (Ex.move rfl) rfl ?_
        refine O.ex (Ex.extract rfl rfl) rfl ?_
        refine O.ex (Ex.extract rfl rfl) rfl ?_
        refine O.ex (Ex.assign rfl) rfl ?_
        refine O.ex (Ex.assign rfl) rfl ?_
        refine O.nil ?_
        refine hK27 _ _ _ ?_
        refine W.seq (fun K28 hK28 => ?_)
        refine W.region ?_
        refine O.ex (Ex.move rfl) rfl ?_
        refine O.ex (by first | exact Ex.notD rfl | exact Ex.not rfl) rfl ?_
        refine O.ex (Ex.move rfl) rfl ?_
        refine O.known (t := 110) (c := true) rfl (by first | rfl | decide | (refine decide_eq_false ?_; omega) | (simp; omega) | exact decide_eq_false (fun hh => hh rfl) | (refine decide_eq_false (fun hh => hh ?_); rw [hix])) ?_
        refine O.guard_t rfl rfl ?_
        refine O.ex (Ex.move rfl) rfl ?_
        refine O.guard_t rfl rfl ?_
        refine O.callF Try.call35 rfl rfl (CT.mono (lenIG_ct (Holds.to (by assumption))) ?_)
        rintro _ w ⟨rfl, H⟩
        refine O.guard_t rfl rfl ?_
        refine O.ex (Ex.eqlI rfl rfl) rfl ?_
        refine O.ex (Ex.pick_t rfl rfl) rfl ?_
        refine O.ex (Ex.assign rfl) rfl ?_
        refine O.nil ?_
        refine hK28 _ _ _ ?_
        refine W.ret ?_
        try dsimp only [thenQ, blockQ, retQ]
        first | refine ⟨_, ⟨_, _, rfl, rfl, rfl⟩, ?_⟩ | (refine retD_mark ?_; intro w H; refine ⟨_, ⟨_, _, rfl, rfl, rfl⟩, ?_⟩) | (refine retD_mark2 ?_; intro w H; refine ⟨_, ⟨_, _, rfl, rfl, rfl⟩, ?_⟩)
        exact ⟨by first | rfl | exact congrArg Value.bool (by decide), Holds.base_below (L := []) (Holds.to (by assumption))⟩
theorem ringBack_row {w0 : World} {lv : Value} {l : List Int} {m : Int} (hm : (Lit.int .u8 m).wf = true) (hx : SlIn w0 1 (fun s : Int => [.int .i64 s]) lv l) (hg : ∀ x ∈ l, (Lit.int .i64 x).wf = true) (hl0 : l.length ≤ maxLen) :
    CT Try.prog 8 [.int .u8 m, lv] w0 fun u w' => u = .bool true ∧ RowKit.Below w0.heap.size w0 w' :=
  ringBack_ct hm hx (by unfold maxLen at hl0; omega)
end Go.Proofs.Ytikdblejkmaloaa
