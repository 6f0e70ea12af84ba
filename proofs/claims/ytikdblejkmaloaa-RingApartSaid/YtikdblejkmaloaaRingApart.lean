import Derived.Test.YtikdblejkmaloaaRing06
namespace Go.Proofs.Ytikdblejkmaloaa
open Go.Rr Go
set_option linter.unusedVariables false
theorem top_win {l : List ByteArray} {i n : Nat} (hi : i < l.length) (hn : 0 < n) (z : ByteArray) : (win l (i + 1) n).getLastD z = l.getD i default ∧ (win l (i + 1) n).length ≠ 0 := by
  obtain ⟨h1, _, h3⟩ := last_win l (i + 1) (i + 1 - n) z (by omega) (by omega)
  exact ⟨h1, h3⟩
theorem topW_ct {w : World} {s n i : Nat} {l : List ByteArray} {L : List HProp} (H : Holds w (RgS s n (win l (i + 1) n) :: L)) (hi : i < l.length) (hn : 0 < n) :
    CT Try.prog 41 [.pointer (some ⟨s, 0, none⟩)] w fun u w' => u = .tuple #[.string (l.getD i default), .bool true] ∧ Holds w' (RgS s n (win l (i + 1) n) :: L) :=
  (topS_ct H).mono fun u w' ⟨e, H⟩ => by
    obtain ⟨h1, h3⟩ := top_win (n := n) hi hn ByteArray.empty
    rw [h1, decide_eq_true h3] at e
    exact ⟨e, H⟩
set_option maxHeartbeats 1000000 in
theorem ringApart_ct {w0 : World} {lv : Value} {l : List ByteArray} {m : Int} (hm : (Lit.int .u8 m).wf = true) (hx : SlIn w0 1 (fun s : ByteArray => [.string s]) lv l) (hl0 : l.length ≤ 9223372036854775807) :
    CT Try.prog 9 [.int .u8 m, lv] w0 fun u w' => u = .bool true ∧ RowKit.Below w0.heap.size w0 w' := by
  have H := Holds.base_refl w0
  obtain ⟨m0, m1⟩ := bounds_u8 hm
  refine CT.enter (N := 120) Try.func9 rfl rfl rfl rfl ?_
  refine W.seq (fun K0 hK0 => ?_)
  refine W.region ?_
  refine O.ex (Ex.assign rfl) rfl ?_
  refine O.nil ?_
  refine hK0 _ _ _ ?_
  refine W.seq (fun K1 hK1 => ?_)
  refine W.seq (fun K2 hK2 => ?_)
  refine W.region ?_
  refine O.callF Try.call27 rfl rfl (CT.mono (awake06_ct (by assumption)) ?_)
  rintro _ w ⟨rfl, H⟩
  refine O.ex (by first | exact Ex.notD rfl | exact Ex.not rfl) rfl ?_
  refine O.nil ?_
  refine hK2 _ _ _ ?_
  refine W.known_f rfl (by first | rfl | decide | (refine decide_eq_false ?_; omega) | (simp; omega) | exact decide_eq_false (fun hh => hh rfl) | (refine decide_eq_false (fun hh => hh ?_); rw [hix]) | (refine decide_eq_false (fun hh => hh ?_); rw [hwl]; omega)) ?_
  refine W.skip ?_
  refine hK1 _ _ _ ?_
  refine W.seq (fun K3 hK3 => ?_)
  refine W.seq (fun K4 hK4 => ?_)
  refine W.region ?_
  refine O.ex (Ex.move rfl) rfl ?_
  refine O.ex (by first | exact Ex.lenR Try.runUnderlying47 rfl | exact Ex.lenIn Try.runUnderlying47 rfl | exact Ex.lenL Try.runUnderlying47 rfl | exact Ex.len rfl Try.runUnderlying47 rfl) rfl ?_
  refine O.ex (Ex.gtr rfl rfl) rfl ?_
  refine O.nil ?_
  refine hK4 _ _ _ ?_
  first | refine W.cond_p rfl (fun hbig => ?_) (fun hle => ?_) | refine W.cond_b rfl (fun hbig => ?_) (fun hle => ?_)
  · refine W.seq (fun K5 hK5 => ?_)
    refine W.region ?_
    refine O.ex (Ex.assign rfl) rfl ?_
    refine O.nil ?_
    refine hK5 _ _ _ ?_
    refine W.ret ?_
    try dsimp only [thenQ, blockQ, retQ]
    first | refine ⟨_, ⟨_, _, rfl, rfl, rfl⟩, ?_⟩ | (refine retD_mark ?_; intro w H; refine ⟨_, ⟨_, _, rfl, rfl, rfl⟩, ?_⟩) | (refine retD_mark2 ?_; intro w H; refine ⟨_, ⟨_, _, rfl, rfl, rfl⟩, ?_⟩)
    exact ⟨by first | rfl | (refine congrArg Value.bool ?_; refine decide_eq_true ?_; rw [hwl]; omega), Holds.base_below (L := []) (Holds.to (by assumption))⟩
  · refine W.skip ?_
    refine hK3 _ _ _ ?_
    refine W.seq (fun K6 hK6 => ?_)
    refine W.region ?_
    refine O.callF Try.call37 rfl rfl (CT.mono (newSG_ct (n := 1) (by assumption)) ?_)
    rintro _ w (⟨hx, -⟩ | ⟨-, o, rfl, H⟩)
    · exact absurd (by omega) hx
    refine O.ex (Ex.move rfl) rfl ?_
    refine O.ex (Ex.extract rfl rfl) rfl ?_
    refine O.ex (Ex.extract rfl rfl) rfl ?_
    refine O.ex (Ex.assign rfl) rfl ?_
    refine O.ex (Ex.assign rfl) rfl ?_
    refine O.nil ?_
    refine hK6 _ _ _ ?_
    refine W.seq (fun K7 hK7 => ?_)
    refine W.region ?_
    refine O.ex (Ex.move rfl) rfl ?_
    refine O.ex (by first | exact Ex.convToI Try.runUnderlying5 Try.runUnderlying3 rfl | exact Ex.convW Try.runUnderlying5 Try.runUnderlying3 rfl) rfl ?_
    refine O.ex (by first | exact Ex.remI rfl rfl | exact Ex.rem rfl rfl (by omega) rfl) rfl ?_
    refine O.ex (by first | exact Ex.addI rfl rfl | exact Ex.add rfl rfl rfl) rfl ?_
    obtain ⟨n, hn⟩ : ∃ n : Nat, (1 : Int) + m % 32 = n := ⟨(1 + m % 32).toNat, by omega⟩
    have hn0 : 0 < n := by omega
    have hn32 : n ≤ 32 := by omega
    rw [hn]
    refine O.callF Try.call37 rfl rfl (CT.mono (newSG_ct (n := (n : Int)) (by assumption)) ?_)
    rintro _ w (⟨hx, -⟩ | ⟨-, s, rfl, H⟩)
    · exact absurd (by omega) hx
    rw [Int.toNat_natCast] at H
    refine O.ex (Ex.move rfl) rfl ?_
    refine O.ex (Ex.extract rfl rfl) rfl ?_
    refine O.ex (Ex.extract rfl rfl) rfl ?_
    refine O.ex (Ex.assign rfl) rfl ?_
    refine O.ex (Ex.assign rfl) rfl ?_
    refine O.nil ?_
    refine hK7 _ _ _ ?_
    refine W.seq (fun K8 hK8 => ?_)
    refine W.seq (fun K9 hK9 => ?_)
    refine W.region ?_
    refine O.ex (Ex.move rfl) rfl ?_
    refine O.ex (Ex.nilEq Try.runUnderlying68 rfl rfl) rfl ?_
    refine O.ex (Ex.move rfl) rfl ?_
    refine O.known (t := 35) (c := false) rfl (by first | rfl | decide | (refine decide_eq_false ?_; omega) | (simp; omega) | exact decide_eq_false (fun hh => hh rfl) | (refine decide_eq_false (fun hh => hh ?_); rw [hix]) | (refine decide_eq_false (fun hh => hh ?_); rw [hwl]; omega)) ?_
    refine O.guard_t rfl rfl ?_
    refine O.ex (Ex.move rfl) rfl ?_
    refine O.guard_t rfl rfl ?_
    refine O.ex (Ex.nilEq Try.runUnderlying68 rfl rfl) rfl ?_
    refine O.ex (Ex.pick_f rfl rfl) rfl ?_
    refine O.nil ?_
    refine hK9 _ _ _ ?_
    refine W.known_f rfl (by first | rfl | decide | (refine decide_eq_false ?_; omega) | (simp; omega) | exact decide_eq_false (fun hh => hh rfl) | (refine decide_eq_false (fun hh => hh ?_); rw [hix]) | (refine decide_eq_false (fun hh => hh ?_); rw [hwl]; omega)) ?_
    refine W.skip ?_
    refine hK8 _ _ _ ?_
    refine W.seq (fun K10 hK10 => ?_)
    refine W.seq (fun K11 hK11 => ?_)
    refine W.region ?_
    refine O.ex (Ex.assign rfl) rfl ?_
    refine O.nil ?_
    refine hK11 _ _ _ ?_
    refine W.block ?_
    have hw0 : ∀ k, win l 0 k = [] := fun k => by simp [win]
    have H : Holds w [RgS s n (win l 0 n), RgS o 1 (win l 0 1), base w0] := by rw [hw0, hw0]; exact Holds.to (by assumption)
    refine W.loop (σ := Nat) (fun i => [(1, lv), (5, .pointer (some ⟨o, 0, none⟩)), (7, .pointer (some ⟨s, 0, none⟩)), (9, .int .i64 (i : Int))]) (fun i ds w => ds = [] ∧ i ≤ l.length ∧ Holds w [RgS s n (win l i n), RgS o 1 (win l i 1), base w0]) (fun i => l.length - i) 0 ⟨rfl, rfl, rfl, rfl, trivial⟩ ⟨rfl, by omega, Holds.to (by assumption)⟩ ?_
    clear H
    rintro i _ w ⟨rfl, hi, H⟩
    refine W.seq (fun K12 hK12 => ?_)
    refine W.seq (fun K13 hK13 => ?_)
    refine W.region ?_
    refine O.ex (Ex.move rfl) rfl ?_
    refine O.ex (Ex.move rfl) rfl ?_
    refine O.ex (by first | exact Ex.lenR Try.runUnderlying47 rfl | exact Ex.lenIn Try.runUnderlying47 rfl | exact Ex.lenL Try.runUnderlying47 rfl | exact Ex.len rfl Try.runUnderlying47 rfl) rfl ?_
    refine O.ex (Ex.lss rfl rfl) rfl ?_
    refine O.nil ?_
    refine hK13 _ _ _ ?_
    first | refine W.cond_p rfl (fun hlt => ?_) (fun hge => ?_) | refine W.cond_b rfl (fun hlt => ?_) (fun hge => ?_)
    · refine W.skip ?_
      refine hK12 _ _ _ ?_
      refine W.seq (fun K14 hK14 => ?_)
      refine W.block ?_
      refine W.seq (fun K15 hK15 => ?_)
      refine W.region ?_
      refine O.ex (Ex.move rfl) rfl ?_
      refine O.ex (Ex.move rfl) rfl ?_
      refine O.ex (Ex.move rfl) rfl ?_
      refine O.ex (by first | exact Ex.idxR Try.runUnderlying47 Try.sizeOf9 rfl rfl | exact Ex.idxIn Try.runUnderlying47 Try.sizeOf9 rfl rfl | exact Ex.idxS Try.runUnderlying47 Try.sizeOf9 rfl rfl | exact Ex.idx Try.runUnderlying47 Try.sizeOf9 rfl rfl (by omega) (by omega)) rfl ?_
      refine O.ex (by first | exact Ex.loadP Try.isAgg9 rfl | exact Ex.loadR Try.isAgg9 rfl | exact Ex.loadIn1 Try.isAgg9 rfl (Holds.to (by assumption))) rfl ?_
      refine O.callF Try.call38 rfl rfl (CT.mono (pushWS_ct (s := o) (n := 1) (i := i) (Holds.to (by assumption)) (by omega) (by omega)) ?_)
      rintro _ w ⟨hx3, H⟩
      rcases hx3 with ⟨hlt2, rfl⟩ | ⟨hge2, rfl⟩
      · refine O.ex (Ex.move rfl) rfl ?_
        refine O.ex (Ex.extract rfl rfl) rfl ?_
        refine O.ex (Ex.extract rfl rfl) rfl ?_
        refine O.ex (Ex.assign rfl) rfl ?_
        refine O.ex (Ex.assign rfl) rfl ?_
        refine O.nil ?_
        refine hK15 _ _ _ ?_
        refine W.seq (fun K16 hK16 => ?_)
        refine W.seq (fun K17 hK17 => ?_)
        refine W.region ?_
        refine O.ex (Ex.move rfl) rfl ?_
        refine O.ex (Ex.move rfl) rfl ?_
        refine O.ex (Ex.gtr rfl rfl) rfl ?_
        refine O.ex (Ex.neqB Try.runUnderlying4 rfl rfl) rfl ?_
        refine O.ex (Ex.move rfl) rfl ?_
        refine O.known (t := 58) (c := false) rfl (by first | rfl | decide | (refine decide_eq_false ?_; omega) | (simp; omega) | exact decide_eq_false (fun hh => hh rfl) | (refine decide_eq_false (fun hh => hh ?_); rw [hix]) | (refine decide_eq_false (fun hh => hh ?_); rw [hwl]; omega)) ?_
        refine O.guard_t rfl rfl ?_
        refine O.ex (Ex.move rfl) rfl ?_
        refine O.guard_t rfl rfl ?_
        refine O.ex (Ex.move rfl) rfl ?_
        refine O.known (t := 60) (c := false) rfl (by first | rfl | decide | (refine decide_eq_false ?_; omega) | (simp; omega) | exact decide_eq_false (fun hh => hh rfl) | (refine decide_eq_false (fun hh => hh ?_); rw [hix]) | (refine decide_eq_false (fun hh => hh ?_); rw [hwl]; omega)) ?_
        refine O.guard_f rfl rfl rfl rfl ?_
        refine O.guard_f rfl rfl rfl rfl ?_
        refine O.guard_f rfl rfl rfl rfl ?_
        refine O.guard_f rfl rfl rfl rfl ?_
        refine O.guard_f rfl rfl rfl rfl ?_
        refine O.guard_f rfl rfl rfl rfl ?_
        refine O.guard_f rfl rfl rfl rfl ?_
        refine O.guard_t rfl rfl ?_
        refine O.ex (Ex.pick_f rfl rfl) rfl ?_
        refine O.ex (Ex.pick_f rfl rfl) rfl ?_
        refine O.nil ?_
        refine hK17 _ _ _ ?_
        refine W.cond_f rfl ?_
        refine W.skip ?_
        refine hK16 _ _ _ ?_
        refine W.seq (fun K18 hK18 => ?_)
        refine W.region ?_
        refine O.ex (Ex.move rfl) rfl ?_
        refine O.ex (Ex.move rfl) rfl ?_
        refine O.ex (Ex.move rfl) rfl ?_
        refine O.ex (by first | exact Ex.idxR Try.runUnderlying47 Try.sizeOf9 rfl rfl | exact Ex.idxIn Try.runUnderlying47 Try.sizeOf9 rfl rfl | exact Ex.idxS Try.runUnderlying47 Try.sizeOf9 rfl rfl | exact Ex.idx Try.runUnderlying47 Try.sizeOf9 rfl rfl (by omega) (by omega)) rfl ?_
        refine O.ex (by first | exact Ex.loadP Try.isAgg9 rfl | exact Ex.loadR Try.isAgg9 rfl | exact Ex.loadIn1 Try.isAgg9 rfl (Holds.to (by assumption))) rfl ?_
        refine O.callF Try.call38 rfl rfl (CT.mono (pushWS_ct (s := s) (n := n) (i := i) (Holds.to (by assumption)) (by omega) hn0) ?_)
        rintro _ w ⟨-, H⟩
        refine O.nil ?_
        refine hK18 _ _ _ ?_
        refine W.seq (fun K19 hK19 => ?_)
        refine W.region ?_
        refine O.ex (Ex.move rfl) rfl ?_
        refine O.callF Try.call41 rfl rfl (CT.mono (topW_ct (i := i) (Holds.to (by assumption)) (by omega) hn0) ?_)
        rintro _ w ⟨rfl, H⟩
        refine O.ex (Ex.move rfl) rfl ?_
        refine O.ex (Ex.extract rfl rfl) rfl ?_
        refine O.ex (Ex.extract rfl rfl) rfl ?_
        refine O.ex (Ex.assign rfl) rfl ?_
        refine O.ex (Ex.assign rfl) rfl ?_
        refine O.nil ?_
        refine hK19 _ _ _ ?_
        refine W.seq (fun K20 hK20 => ?_)
        refine W.region ?_
        refine O.ex (Ex.move rfl) rfl ?_
        refine O.callF Try.call41 rfl rfl (CT.mono (topW_ct (i := i) (Holds.to (by assumption)) (by omega) hn0) ?_)
        rintro _ w ⟨rfl, H⟩
        refine O.ex (Ex.move rfl) rfl ?_
        refine O.ex (Ex.extract rfl rfl) rfl ?_
        refine O.ex (Ex.extract rfl rfl) rfl ?_
        refine O.ex (Ex.assign rfl) rfl ?_
        refine O.ex (Ex.assign rfl) rfl ?_
        refine O.nil ?_
        refine hK20 _ _ _ ?_
        refine W.seq (fun K21 hK21 => ?_)
        refine W.region ?_
        have hwl := win_len l (i + 1) n (by omega)
        refine O.ex (Ex.move rfl) rfl ?_
        refine O.ex (Ex.move rfl) rfl ?_
        refine O.ex (Ex.move rfl) rfl ?_
        refine O.ex (by first | exact Ex.idxR Try.runUnderlying47 Try.sizeOf9 rfl rfl | exact Ex.idxIn Try.runUnderlying47 Try.sizeOf9 rfl rfl | exact Ex.idxS Try.runUnderlying47 Try.sizeOf9 rfl rfl | exact Ex.idx Try.runUnderlying47 Try.sizeOf9 rfl rfl (by omega) (by omega)) rfl ?_
        refine O.ex (by first | exact Ex.loadP Try.isAgg9 rfl | exact Ex.loadR Try.isAgg9 rfl | exact Ex.loadIn1 Try.isAgg9 rfl (Holds.to (by assumption))) rfl ?_
        refine O.ex (Ex.neqS rfl rfl) rfl ?_
        refine O.ex (Ex.move rfl) rfl ?_
        refine O.known (t := 92) (c := false) rfl (by first | rfl | decide | (refine decide_eq_false ?_; omega) | (simp; omega) | exact decide_eq_false (fun hh => hh rfl) | (refine decide_eq_false (fun hh => hh ?_); rw [hix]) | (refine decide_eq_false (fun hh => hh ?_); rw [hwl]; omega)) ?_
        refine O.guard_t rfl rfl ?_
        refine O.ex (Ex.move rfl) rfl ?_
        refine O.guard_t rfl rfl ?_
        refine O.ex (Ex.move rfl) rfl ?_
        refine O.guard_t rfl rfl ?_
        refine O.ex (Ex.move rfl) rfl ?_
        refine O.guard_t rfl rfl ?_
        refine O.ex (by first | exact Ex.idxR Try.runUnderlying47 Try.sizeOf9 rfl rfl | exact Ex.idxIn Try.runUnderlying47 Try.sizeOf9 rfl rfl | exact Ex.idxS Try.runUnderlying47 Try.sizeOf9 rfl rfl | exact Ex.idx Try.runUnderlying47 Try.sizeOf9 rfl rfl (by omega) (by omega)) rfl ?_
        refine O.guard_t rfl rfl ?_
        refine O.ex (by first | exact Ex.loadP Try.isAgg9 rfl | exact Ex.loadR Try.isAgg9 rfl | exact Ex.loadIn1 Try.isAgg9 rfl (Holds.to (by assumption))) rfl ?_
        refine O.guard_t rfl rfl ?_
        refine O.ex (Ex.neqS rfl rfl) rfl ?_
        refine O.ex (Ex.pick_f rfl rfl) rfl ?_
        refine O.ex (Ex.move rfl) rfl ?_
        refine O.known (t := 100) (c := false) rfl (by first | rfl | decide | (refine decide_eq_false ?_; omega) | (simp; omega) | exact decide_eq_false (fun hh => hh rfl) | (refine decide_eq_false (fun hh => hh ?_); rw [hix]) | (refine decide_eq_false (fun hh => hh ?_); rw [hwl]; omega)) ?_
        refine O.guard_t rfl rfl ?_
        refine O.ex (Ex.move rfl) rfl ?_
        refine O.guard_t rfl rfl ?_
        refine O.ex (by first | exact Ex.notD rfl | exact Ex.not rfl) rfl ?_
        refine O.ex (Ex.pick_f rfl rfl) rfl ?_
        refine O.ex (Ex.move rfl) rfl ?_
        refine O.known (t := 104) (c := false) rfl (by first | rfl | decide | (refine decide_eq_false ?_; omega) | (simp; omega) | exact decide_eq_false (fun hh => hh rfl) | (refine decide_eq_false (fun hh => hh ?_); rw [hix]) | (refine decide_eq_false (fun hh => hh ?_); rw [hwl]; omega)) ?_
        refine O.guard_t rfl rfl ?_
        refine O.ex (Ex.move rfl) rfl ?_
        refine O.guard_t rfl rfl ?_
        refine O.callF Try.call40 rfl rfl (CT.mono (lenSG_ct (Holds.to (by assumption))) ?_)
        rintro _ w ⟨rfl, H⟩
        refine O.guard_t rfl rfl ?_
        refine O.ex (Ex.move rfl) rfl ?_
        refine O.guard_t rfl rfl ?_
        refine O.ex (by first | exact Ex.addI rfl rfl | exact Ex.add rfl rfl rfl) rfl ?_
        refine O.guard_t rfl rfl ?_
        refine O.ex (Ex.move rfl) rfl ?_
        refine O.guard_t rfl rfl ?_
        refine O.callF Try.call42 rfl rfl (CT.mono (roomSG_ct (Holds.to (by assumption))) ?_)
        rintro _ w ⟨rfl, H⟩
        refine O.guard_t rfl rfl ?_
        refine O.ex (Ex.minI rfl rfl) rfl ?_
        refine O.guard_t rfl rfl ?_
        refine O.ex (Ex.neqI rfl rfl) rfl ?_
        refine O.ex (Ex.pick_f rfl rfl) rfl ?_
        refine O.nil ?_
        refine hK21 _ _ _ ?_
        refine W.known_f rfl (by first | rfl | decide | (refine decide_eq_false ?_; omega) | (simp; omega) | exact decide_eq_false (fun hh => hh rfl) | (refine decide_eq_false (fun hh => hh ?_); rw [hix]) | (refine decide_eq_false (fun hh => hh ?_); rw [hwl]; omega)) ?_
        refine W.skip ?_
        refine hK14 _ _ _ ?_
        refine W.region ?_
        refine O.ex (Ex.move rfl) rfl ?_
        refine O.ex (by first | exact Ex.addI rfl rfl | exact Ex.add rfl rfl rfl) rfl ?_
        refine O.ex (Ex.assign rfl) rfl ?_
        refine O.nil ?_
        exact ⟨i + 1, ⟨rfl, rfl, rfl, rfl, trivial⟩, ⟨rfl, by omega, Holds.to (by assumption)⟩, by omega⟩
      · have hix : ((i : Int) - 1).toNat = i - 1 := by omega
        refine O.ex (Ex.move rfl) rfl ?_
        refine O.ex (Ex.extract rfl rfl) rfl ?_
        refine O.ex (Ex.extract rfl rfl) rfl ?_
        refine O.ex (Ex.assign rfl) rfl ?_
        refine O.ex (Ex.assign rfl) rfl ?_
        refine O.nil ?_
        refine hK15 _ _ _ ?_
        refine W.seq (fun K22 hK22 => ?_)
        refine W.seq (fun K23 hK23 => ?_)
        refine W.region ?_
        refine O.ex (Ex.move rfl) rfl ?_
        refine O.ex (Ex.move rfl) rfl ?_
        refine O.ex (Ex.gtr rfl rfl) rfl ?_
        refine O.ex (Ex.neqB Try.runUnderlying4 rfl rfl) rfl ?_
        refine O.ex (Ex.move rfl) rfl ?_
        refine O.known (t := 58) (c := false) rfl (by first | rfl | decide | (refine decide_eq_false ?_; omega) | (simp; omega) | exact decide_eq_false (fun hh => hh rfl) | (refine decide_eq_false (fun hh => hh ?_); rw [hix]) | (refine decide_eq_false (fun hh => hh ?_); rw [hwl]; omega)) ?_
        refine O.guard_t rfl rfl ?_
        refine O.ex (Ex.move rfl) rfl ?_
        refine O.guard_t rfl rfl ?_
        refine O.ex (Ex.move rfl) rfl ?_
        refine O.known (t := 60) (c := true) rfl (by first | rfl | decide | (refine decide_eq_false ?_; omega) | (simp; omega) | exact decide_eq_false (fun hh => hh rfl) | (refine decide_eq_false (fun hh => hh ?_); rw [hix]) | (refine decide_eq_false (fun hh => hh ?_); rw [hwl]; omega)) ?_
        refine O.guard_t rfl rfl ?_
        refine O.ex (Ex.move rfl) rfl ?_
        refine O.guard_t rfl rfl ?_
        refine O.ex (Ex.move rfl) rfl ?_
        refine O.guard_t rfl rfl ?_
        refine O.ex (Ex.move rfl) rfl ?_
        refine O.guard_t rfl rfl ?_
        refine O.ex (by first | exact Ex.subI rfl rfl | exact Ex.sub rfl rfl rfl) rfl ?_
        refine O.guard_t rfl rfl ?_
        refine O.ex (by first | exact Ex.idxR Try.runUnderlying47 Try.sizeOf9 rfl rfl | exact Ex.idxIn Try.runUnderlying47 Try.sizeOf9 rfl rfl | exact Ex.idxS Try.runUnderlying47 Try.sizeOf9 rfl rfl | exact Ex.idx Try.runUnderlying47 Try.sizeOf9 rfl rfl (by omega) (by omega)) rfl ?_
        refine O.guard_t rfl rfl ?_
        refine O.ex (by first | exact Ex.loadP Try.isAgg9 rfl | exact Ex.loadR Try.isAgg9 rfl | exact Ex.loadIn1 Try.isAgg9 rfl (Holds.to (by assumption))) rfl ?_
        refine O.guard_t rfl rfl ?_
        refine O.ex (Ex.neqS rfl rfl) rfl ?_
        refine O.guard_t rfl rfl ?_
        refine O.ex (Ex.pick_t rfl rfl) rfl ?_
        refine O.ex (Ex.pick_f rfl rfl) rfl ?_
        refine O.nil ?_
        refine hK23 _ _ _ ?_
        refine W.known_f rfl (by first | rfl | decide | (refine decide_eq_false ?_; omega) | (simp; omega) | exact decide_eq_false (fun hh => hh rfl) | (refine decide_eq_false (fun hh => hh ?_); rw [hix]) | (refine decide_eq_false (fun hh => hh ?_); rw [hwl]; omega)) ?_
        refine W.skip ?_
        refine hK22 _ _ _ ?_
        refine W.seq (fun K24 hK24 => ?_)
        refine W.region ?_
        refine O.ex (Ex.move rfl) rfl ?_
        refine O.ex (Ex.move rfl) rfl ?_
        refine O.ex (Ex.move rfl) rfl ?_
        refine O.ex (by first | exact Ex.idxR Try.runUnderlying47 Try.sizeOf9 rfl rfl | exact Ex.idxIn Try.runUnderlying47 Try.sizeOf9 rfl rfl | exact Ex.idxS Try.runUnderlying47 Try.sizeOf9 rfl rfl | exact Ex.idx Try.runUnderlying47 Try.sizeOf9 rfl rfl (by omega) (by omega)) rfl ?_
        refine O.ex (by first | exact Ex.loadP Try.isAgg9 rfl | exact Ex.loadR Try.isAgg9 rfl | exact Ex.loadIn1 Try.isAgg9 rfl (Holds.to (by assumption))) rfl ?_
        refine O.callF Try.call38 rfl rfl (CT.mono (pushWS_ct (s := s) (n := n) (i := i) (Holds.to (by assumption)) (by omega) hn0) ?_)
        rintro _ w ⟨-, H⟩
        refine O.nil ?_
        refine hK24 _ _ _ ?_
        refine W.seq (fun K25 hK25 => ?_)
        refine W.region ?_
        refine O.ex (Ex.move rfl) rfl ?_
        refine O.callF Try.call41 rfl rfl (CT.mono (topW_ct (i := i) (Holds.to (by assumption)) (by omega) hn0) ?_)
        rintro _ w ⟨rfl, H⟩
        refine O.ex (Ex.move rfl) rfl ?_
        refine O.ex (Ex.extract rfl rfl) rfl ?_
        refine O.ex (Ex.extract rfl rfl) rfl ?_
        refine O.ex (Ex.assign rfl) rfl ?_
        refine O.ex (Ex.assign rfl) rfl ?_
        refine O.nil ?_
        refine hK25 _ _ _ ?_
        refine W.seq (fun K26 hK26 => ?_)
        refine W.region ?_
        refine O.ex (Ex.move rfl) rfl ?_
        refine O.callF Try.call41 rfl rfl (CT.mono (topW_ct (i := i) (Holds.to (by assumption)) (by omega) hn0) ?_)
        rintro _ w ⟨rfl, H⟩
        refine O.ex (Ex.move rfl) rfl ?_
        refine O.ex (Ex.extract rfl rfl) rfl ?_
        refine O.ex (Ex.extract rfl rfl) rfl ?_
        refine O.ex (Ex.assign rfl) rfl ?_
        refine O.ex (Ex.assign rfl) rfl ?_
        refine O.nil ?_
        refine hK26 _ _ _ ?_
        refine W.seq (fun K27 hK27 => ?_)
        refine W.region ?_
        have hwl := win_len l (i + 1) n (by omega)
        refine O.ex (Ex.move rfl) rfl ?_
        refine O.ex (Ex.move rfl) rfl ?_
        refine O.ex (Ex.move rfl) rfl ?_
        refine O.ex (by first | exact Ex.idxR Try.runUnderlying47 Try.sizeOf9 rfl rfl | exact Ex.idxIn Try.runUnderlying47 Try.sizeOf9 rfl rfl | exact Ex.idxS Try.runUnderlying47 Try.sizeOf9 rfl rfl | exact Ex.idx Try.runUnderlying47 Try.sizeOf9 rfl rfl (by omega) (by omega)) rfl ?_
        refine O.ex (by first | exact Ex.loadP Try.isAgg9 rfl | exact Ex.loadR Try.isAgg9 rfl | exact Ex.loadIn1 Try.isAgg9 rfl (Holds.to (by assumption))) rfl ?_
        refine O.ex (Ex.neqS rfl rfl) rfl ?_
        refine O.ex (Ex.move rfl) rfl ?_
        refine O.known (t := 92) (c := false) rfl (by first | rfl | decide | (refine decide_eq_false ?_; omega) | (simp; omega) | exact decide_eq_false (fun hh => hh rfl) | (refine decide_eq_false (fun hh => hh ?_); rw [hix]) | (refine decide_eq_false (fun hh => hh ?_); rw [hwl]; omega)) ?_
        refine O.guard_t rfl rfl ?_
        refine O.ex (Ex.move rfl) rfl ?_
        refine O.guard_t rfl rfl ?_
        refine O.ex (Ex.move rfl) rfl ?_
        refine O.guard_t rfl rfl ?_
        refine O.ex (Ex.move rfl) rfl ?_
        refine O.guard_t rfl rfl ?_
        refine O.ex (by first | exact Ex.idxR Try.runUnderlying47 Try.sizeOf9 rfl rfl | exact Ex.idxIn Try.runUnderlying47 Try.sizeOf9 rfl rfl | exact Ex.idxS Try.runUnderlying47 Try.sizeOf9 rfl rfl | exact Ex.idx Try.runUnderlying47 Try.sizeOf9 rfl rfl (by omega) (by omega)) rfl ?_
        refine O.guard_t rfl rfl ?_
        refine O.ex (by first | exact Ex.loadP Try.isAgg9 rfl | exact Ex.loadR Try.isAgg9 rfl | exact Ex.loadIn1 Try.isAgg9 rfl (Holds.to (by assumption))) rfl ?_
        refine O.guard_t rfl rfl ?_
        refine O.ex (Ex.neqS rfl rfl) rfl ?_
        refine O.ex (Ex.pick_f rfl rfl) rfl ?_
        refine O.ex (Ex.move rfl) rfl ?_
        refine O.known (t := 100) (c := false) rfl (by first | rfl | decide | (refine decide_eq_false ?_; omega) | (simp; omega) | exact decide_eq_false (fun hh => hh rfl) | (refine decide_eq_false (fun hh => hh ?_); rw [hix]) | (refine decide_eq_false (fun hh => hh ?_); rw [hwl]; omega)) ?_
        refine O.guard_t rfl rfl ?_
        refine O.ex (Ex.move rfl) rfl ?_
        refine O.guard_t rfl rfl ?_
        refine O.ex (by first | exact Ex.notD rfl | exact Ex.not rfl) rfl ?_
        refine O.ex (Ex.pick_f rfl rfl) rfl ?_
        refine O.ex (Ex.move rfl) rfl ?_
        refine O.known (t := 104) (c := false) rfl (by first | rfl | decide | (refine decide_eq_false ?_; omega) | (simp; omega) | exact decide_eq_false (fun hh => hh rfl) | (refine decide_eq_false (fun hh => hh ?_); rw [hix]) | (refine decide_eq_false (fun hh => hh ?_); rw [hwl]; omega)) ?_
        refine O.guard_t rfl rfl ?_
        refine O.ex (Ex.move rfl) rfl ?_
        refine O.guard_t rfl rfl ?_
        refine O.callF Try.call40 rfl rfl (CT.mono (lenSG_ct (Holds.to (by assumption))) ?_)
        rintro _ w ⟨rfl, H⟩
        refine O.guard_t rfl rfl ?_
        refine O.ex (Ex.move rfl) rfl ?_
        refine O.guard_t rfl rfl ?_
        refine O.ex (by first | exact Ex.addI rfl rfl | exact Ex.add rfl rfl rfl) rfl ?_
        refine O.guard_t rfl rfl ?_
        refine O.ex (Ex.move rfl) rfl ?_
        refine O.guard_t rfl rfl ?_
        refine O.callF Try.call42 rfl rfl (CT.mono (roomSG_ct (Holds.to (by assumption))) ?_)
        rintro _ w ⟨rfl, H⟩
        refine O.guard_t rfl rfl ?_
        refine O.ex (Ex.minI rfl rfl) rfl ?_
        refine O.guard_t rfl rfl ?_
        refine O.ex (Ex.neqI rfl rfl) rfl ?_
        refine O.ex (Ex.pick_f rfl rfl) rfl ?_
        refine O.nil ?_
        refine hK27 _ _ _ ?_
        refine W.known_f rfl (by first | rfl | decide | (refine decide_eq_false ?_; omega) | (simp; omega) | exact decide_eq_false (fun hh => hh rfl) | (refine decide_eq_false (fun hh => hh ?_); rw [hix]) | (refine decide_eq_false (fun hh => hh ?_); rw [hwl]; omega)) ?_
        refine W.skip ?_
        refine hK14 _ _ _ ?_
        refine W.region ?_
        refine O.ex (Ex.move rfl) rfl ?_
        refine O.ex (by first | exact Ex.addI rfl rfl | exact Ex.add rfl rfl rfl) rfl ?_
        refine O.ex (Ex.assign rfl) rfl ?_
        refine O.nil ?_
        exact ⟨i + 1, ⟨rfl, rfl, rfl, rfl, trivial⟩, ⟨rfl, by omega, Holds.to (by assumption)⟩, by omega⟩
    · refine W.exit ?_
      refine hK10 _ _ _ ?_
      refine W.seq (fun K28 hK28 => ?_)
      refine W.region ?_
      obtain rfl : i = l.length := by omega
      have hwl := win_len l l.length 1 (by omega)
      refine O.ex (Ex.move rfl) rfl ?_
      refine O.callF Try.call40 rfl rfl (CT.mono (lenSG_ct (Holds.to (by assumption))) ?_)
      rintro _ w ⟨rfl, H⟩
      refine O.ex (Ex.move rfl) rfl ?_
      refine O.ex (by first | exact Ex.lenR Try.runUnderlying47 rfl | exact Ex.lenIn Try.runUnderlying47 rfl | exact Ex.lenL Try.runUnderlying47 rfl | exact Ex.len rfl Try.runUnderlying47 rfl) rfl ?_
      refine O.ex (Ex.minI rfl rfl) rfl ?_
      refine O.ex (Ex.eqlI rfl rfl) rfl ?_
      refine O.ex (Ex.assign rfl) rfl ?_
      refine O.nil ?_
      refine hK28 _ _ _ ?_
      refine W.ret ?_
      try dsimp only [thenQ, blockQ, retQ]
      first | refine ⟨_, ⟨_, _, rfl, rfl, rfl⟩, ?_⟩ | (refine retD_mark ?_; intro w H; refine ⟨_, ⟨_, _, rfl, rfl, rfl⟩, ?_⟩) | (refine retD_mark2 ?_; intro w H; refine ⟨_, ⟨_, _, rfl, rfl, rfl⟩, ?_⟩)
      exact ⟨by first | rfl | (refine congrArg Value.bool ?_; refine decide_eq_true ?_; rw [hwl]; omega), Holds.base_below (L := []) (Holds.to (by assumption))⟩
theorem ringApart_row {w0 : World} {lv : Value} {l : List ByteArray} {m : Int} (hm : (Lit.int .u8 m).wf = true) (hx : SlIn w0 1 (fun s : ByteArray => [.string s]) lv l) (hg : ∀ x ∈ l, x.size ≤ maxLen) (hl0 : l.length ≤ maxLen) :
    CT Try.prog 9 [.int .u8 m, lv] w0 fun u w' => u = .bool true ∧ RowKit.Below w0.heap.size w0 w' :=
  ringApart_ct hm hx (by unfold maxLen at hl0; omega)
end Go.Proofs.Ytikdblejkmaloaa
