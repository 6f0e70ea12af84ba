import Derived.Test.YtikdblejkmaloaaRing06
namespace Go.Proofs.Ytikdblejkmaloaa
open Go.Rr Go
set_option linter.unusedVariables false
theorem win_get {l : List ByteArray} {n j : Nat} (h : j < min l.length n) : (win l l.length n).getD ((win l l.length n).length - 1 - j) default = l.getD (l.length - 1 - j) default := by
  have hw := win_len l l.length n (by omega)
  rw [hw]
  unfold win
  rw [List.take_length, List.getD_eq_getElem?_getD, List.getElem?_drop, List.getD_eq_getElem?_getD]
  congr 2
  omega
set_option maxHeartbeats 1000000 in
theorem ringGoes_ct {w0 : World} {lv : Value} {l : List ByteArray} {m q : Int} (hm : (Lit.int .u8 m).wf = true) (hx : SlIn w0 1 (fun s : ByteArray => [.string s]) lv l) (hl0 : l.length ≤ 9223372036854775807) (hq : (Lit.int .u8 q).wf = true) :
    CT Try.prog 7 [.int .u8 m, lv, .int .u8 q] w0 fun u w' => u = .bool true ∧ RowKit.Below w0.heap.size w0 w' := by
  have H := Holds.base_refl w0
  obtain ⟨m0, m1⟩ := bounds_u8 hm
  obtain ⟨q0, q1⟩ := bounds_u8 hq
  refine CT.enter (N := 97) Try.func7 rfl rfl rfl rfl ?_
  refine W.seq (fun K0 hK0 => ?_)
  refine W.region ?_
  refine O.boxP rfl (fun b4 w H => ?_)
  rw [hx.cells] at H
  refine O.boxP rfl (fun b5 w H => ?_)
  refine O.allocP Try.zeroValue4 (fun b6 w H => ?_)
  refine O.nil ?_
  refine hK0 _ _ _ ?_
  refine W.seq (fun K1 hK1 => ?_)
  refine W.seq (fun K2 hK2 => ?_)
  refine W.region ?_
  refine O.callF Try.call27 rfl rfl (CT.mono (awake06_ct (by assumption)) ?_)
  rintro _ w ⟨rfl, H⟩
  refine O.ex (by first | exact Ex.notD rfl | exact Ex.not rfl) rfl ?_
  refine O.nil ?_
  refine hK2 _ _ _ ?_
  refine W.known_f rfl (by first | rfl | decide | (refine decide_eq_false ?_; omega) | (simp; omega) | exact decide_eq_false (fun hh => hh rfl) | (refine decide_eq_false (fun hh => hh ?_); rw [hix]) | (refine decide_eq_true ?_; omega)) ?_
  refine W.skip ?_
  refine hK1 _ _ _ ?_
  refine W.seq (fun K3 hK3 => ?_)
  refine W.seq (fun K4 hK4 => ?_)
  refine W.region ?_
  refine O.ex (by first | exact Ex.loadP Try.isAgg47 rfl | exact Ex.loadR Try.isAgg47 rfl | exact Ex.loadIn1 Try.isAgg47 rfl (Holds.to (by assumption))) rfl ?_
  refine O.ex (by first | exact Ex.lenR Try.runUnderlying47 rfl | exact Ex.lenIn Try.runUnderlying47 rfl | exact Ex.lenL Try.runUnderlying47 rfl | exact Ex.len rfl Try.runUnderlying47 rfl) rfl ?_
  refine O.ex (Ex.gtr rfl rfl) rfl ?_
  refine O.nil ?_
  refine hK4 _ _ _ ?_
  first | refine W.cond_p rfl (fun hbig => ?_) (fun hle => ?_) | refine W.cond_b rfl (fun hbig => ?_) (fun hle => ?_)
  · refine W.seq (fun K5 hK5 => ?_)
    refine W.region ?_
    first | refine O.storeP Try.sizeOf4 rfl rfl (fun w H => ?_) | refine O.storeR Try.sizeOf4 rfl rfl (fun w H => ?_)
    refine O.nil ?_
    refine hK5 _ _ _ ?_
    refine W.ret ?_
    try dsimp only [thenQ, blockQ, retQ]
    first | refine ⟨_, ⟨_, _, _, rfl, rfl, loadVar_one Try.isAgg4, rfl⟩, ?_⟩ | (refine retD_mark ?_; intro w H; refine ⟨_, ⟨_, _, _, rfl, rfl, loadVar_one Try.isAgg4, rfl⟩, ?_⟩) | (refine retD_mark2 ?_; intro w H; refine ⟨_, ⟨_, _, _, rfl, rfl, loadVar_one Try.isAgg4, rfl⟩, ?_⟩)
    exact ⟨rfl, Holds.base_below (L := []) (Holds.to (by assumption))⟩
  · refine W.skip ?_
    refine hK3 _ _ _ ?_
    refine W.seq (fun K6 hK6 => ?_)
    refine W.region ?_
    refine O.ex (Ex.move rfl) rfl ?_
    refine O.ex (by first | exact Ex.convToI Try.runUnderlying5 Try.runUnderlying3 rfl | exact Ex.convW Try.runUnderlying5 Try.runUnderlying3 rfl) rfl ?_
    refine O.ex (by first | exact Ex.remI rfl rfl | exact Ex.rem rfl rfl (by omega) rfl) rfl ?_
    refine O.ex (by first | exact Ex.addI rfl rfl | exact Ex.add rfl rfl rfl) rfl ?_
    obtain ⟨n, hn⟩ : ∃ n : Nat, (1 : Int) + m % 32 = n := ⟨(1 + m % 32).toNat, by omega⟩
    have hn0 : 0 < n := by omega
    have hn32 : n ≤ 32 := by omega
    rw [hn]
    refine O.allocP Try.zeroValue3 (fun b7 w H => ?_)
    first | refine O.storeP Try.sizeOf3 rfl rfl (fun w H => ?_) | refine O.storeR Try.sizeOf3 rfl rfl (fun w H => ?_)
    refine O.nil ?_
    refine hK6 _ _ _ ?_
    refine W.seq (fun K7 hK7 => ?_)
    refine W.region ?_
    refine O.ex (by first | exact Ex.loadP Try.isAgg3 rfl | exact Ex.loadR Try.isAgg3 rfl | exact Ex.loadIn1 Try.isAgg3 rfl (Holds.to (by assumption))) rfl ?_
    refine O.callF Try.call37 rfl rfl (CT.mono (newSG_ct (n := (n : Int)) (by assumption)) ?_)
    rintro _ w (⟨hx2, -⟩ | ⟨-, s, rfl, H⟩)
    · exact absurd (by omega) hx2
    rw [Int.toNat_natCast] at H
    refine O.ex (Ex.move rfl) rfl ?_
    refine O.ex (Ex.extract rfl rfl) rfl ?_
    refine O.ex (Ex.extract rfl rfl) rfl ?_
    refine O.ex (Ex.assign rfl) rfl ?_
    refine O.ex (Ex.assign rfl) rfl ?_
    refine O.nil ?_
    refine hK7 _ _ _ ?_
    refine W.seq (fun K8 hK8 => ?_)
    refine W.seq (fun K9 hK9 => ?_)
    refine W.region ?_
    refine O.ex (Ex.move rfl) rfl ?_
    refine O.ex (Ex.nilEq Try.runUnderlying68 rfl rfl) rfl ?_
    refine O.nil ?_
    refine hK9 _ _ _ ?_
    refine W.known_f rfl (by first | rfl | decide | (refine decide_eq_false ?_; omega) | (simp; omega) | exact decide_eq_false (fun hh => hh rfl) | (refine decide_eq_false (fun hh => hh ?_); rw [hix]) | (refine decide_eq_true ?_; omega)) ?_
    refine W.skip ?_
    refine hK8 _ _ _ ?_
    refine W.seq (fun K10 hK10 => ?_)
    refine W.seq (fun K11 hK11 => ?_)
    refine W.region ?_
    refine O.ex (Ex.assign rfl) rfl ?_
    refine O.nil ?_
    refine hK11 _ _ _ ?_
    refine W.block ?_
    have hw0 : ∀ k, win l 0 k = [] := fun k => by simp [win]
    have H : Holds w [RgS s n (win l 0 n), pt b7 (.cells #[.int .i64 n] 3 (0, 0)), pt b4 (.cells #[lv] 47 (0, 0)), pt b5 (.cells #[.int .u8 q] 5 (0, 0)), pt b6 (.cells #[.bool false] 4 (0, 0)), base w0] := by rw [hw0]; exact Holds.to (by assumption)
    refine W.loop (σ := Nat) (fun i => [(4, .pointer (some ⟨b4, 0, none⟩)), (5, .pointer (some ⟨b5, 0, none⟩)), (6, .pointer (some ⟨b6, 0, none⟩)), (7, .pointer (some ⟨b7, 0, none⟩)), (8, .pointer (some ⟨s, 0, none⟩)), (10, .int .i64 (i : Int))]) (fun i ds w => ds = [] ∧ i ≤ l.length ∧ Holds w [RgS s n (win l i n), pt b7 (.cells #[.int .i64 n] 3 (0, 0)), pt b4 (.cells #[lv] 47 (0, 0)), pt b5 (.cells #[.int .u8 q] 5 (0, 0)), pt b6 (.cells #[.bool false] 4 (0, 0)), base w0]) (fun i => l.length - i) 0 ⟨rfl, rfl, rfl, rfl, rfl, rfl, trivial⟩ ⟨rfl, by omega, Holds.to (by assumption)⟩ ?_
    clear H
    rintro i _ w ⟨rfl, hi, H⟩
    refine W.seq (fun K12 hK12 => ?_)
    refine W.seq (fun K13 hK13 => ?_)
    refine W.region ?_
    refine O.ex (Ex.move rfl) rfl ?_
    refine O.ex (by first | exact Ex.loadP Try.isAgg47 rfl | exact Ex.loadR Try.isAgg47 rfl | exact Ex.loadIn1 Try.isAgg47 rfl (Holds.to (by assumption))) rfl ?_
    refine O.ex (by first | exact Ex.lenR Try.runUnderlying47 rfl | exact Ex.lenIn Try.runUnderlying47 rfl | exact Ex.lenL Try.runUnderlying47 rfl | exact Ex.len rfl Try.runUnderlying47 rfl) rfl ?_
    refine O.ex (Ex.lss rfl rfl) rfl ?_
    refine O.nil ?_
    refine hK13 _ _ _ ?_
    first | refine W.cond_p rfl (fun hlt => ?_) (fun hge => ?_) | refine W.cond_b rfl (fun hlt => ?_) (fun hge => ?_)
    · refine W.skip ?_
      refine hK12 _ _ _ ?_
      refine W.seq (fun K14 hK14 => ?_)
      refine W.block ?_
      refine W.region ?_
      refine O.ex (Ex.move rfl) rfl ?_
      refine O.ex (by first | exact Ex.loadP Try.isAgg47 rfl | exact Ex.loadR Try.isAgg47 rfl | exact Ex.loadIn1 Try.isAgg47 rfl (Holds.to (by assumption))) rfl ?_
      refine O.ex (Ex.move rfl) rfl ?_
      refine O.ex (by first | exact Ex.idxR Try.runUnderlying47 Try.sizeOf9 rfl rfl | exact Ex.idxIn Try.runUnderlying47 Try.sizeOf9 rfl rfl | exact Ex.idxS Try.runUnderlying47 Try.sizeOf9 rfl rfl | exact Ex.idx Try.runUnderlying47 Try.sizeOf9 rfl rfl (by omega) (by omega)) rfl ?_
      refine O.ex (by first | exact Ex.loadP Try.isAgg9 rfl | exact Ex.loadR Try.isAgg9 rfl | exact Ex.loadIn1 Try.isAgg9 rfl (Holds.to (by assumption))) rfl ?_
      refine O.callF Try.call38 rfl rfl (CT.mono (pushWS_ct (s := s) (n := n) (i := i) (Holds.to (by assumption)) (by omega) hn0) ?_)
      rintro _ w ⟨-, H⟩
      refine O.nil ?_
      refine hK14 _ _ _ ?_
      refine W.region ?_
      refine O.ex (Ex.move rfl) rfl ?_
      refine O.ex (by first | exact Ex.addI rfl rfl | exact Ex.add rfl rfl rfl) rfl ?_
      refine O.ex (Ex.assign rfl) rfl ?_
      refine O.nil ?_
      exact ⟨i + 1, ⟨rfl, rfl, rfl, rfl, rfl, rfl, trivial⟩, ⟨rfl, by omega, Holds.to (by assumption)⟩, by omega⟩
    · refine W.exit ?_
      refine hK10 _ _ _ ?_
      refine W.seq (fun K15 hK15 => ?_)
      refine W.region ?_
      obtain rfl : i = l.length := by omega
      have hwl := win_len l l.length n (by omega)
      refine O.allocP Try.zeroValue3 (fun b11 w H => ?_)
      first | refine O.storeP Try.sizeOf3 rfl rfl (fun w H => ?_) | refine O.storeR Try.sizeOf3 rfl rfl (fun w H => ?_)
      refine O.nil ?_
      refine hK15 _ _ _ ?_
      refine W.seq (fun K16 hK16 => ?_)
      refine W.seq (fun K17 hK17 => ?_)
      refine W.region ?_
      refine O.ex (Ex.move rfl) rfl ?_
      refine O.callF Try.call39 rfl rfl (CT.mono (allSG_ct (by assumption)) ?_)
      rintro _ w ⟨c, rfl, H⟩
      refine O.nil ?_
      refine hK17 _ _ _ ?_
      refine W.block ?_
      obtain ⟨vv, at_, f, hr, H⟩ := rgS_open.1 (Holds.to (by assumption))
      refine W.rangeFunc rfl Try.call58 H ?_
      rintro LR kk D w hLR H
      refine CT.mono (all1SG_ct (c := c) (s := s) (vv := vv) hr (J := fun j => [LR .ready none, dblk D, pt b11 (.cells #[.int .i64 (j : Int)] 3 (0, 0)), pt b7 (.cells #[.int .i64 n] 3 (0, 0)), pt b4 (.cells #[lv] 47 (0, 0)), pt b5 (.cells #[.int .u8 q] 5 (0, 0)), pt b6 (.cells #[.bool false] 4 (0, 0)), base w0]) (φ := fun j => j = 0 ∨ (j : Int) < q)
        (S := fun w' => ∃ kk : Int, (kk = max q 1 ∧ kk ≤ min l.length n) ∧ Holds w' [capSG c s, RgOS s vv at_ f (win l l.length n).length, LR .done (some (.exit 2)), dblk D, pt b11 (.cells #[.int .i64 kk] 3 (0, 0)), pt b7 (.cells #[.int .i64 n] 3 (0, 0)), pt b4 (.cells #[lv] 47 (0, 0)), pt b5 (.cells #[.int .u8 q] 5 (0, 0)), pt b6 (.cells #[.bool false] 4 (0, 0)), base w0]) (Holds.to (by assumption)) (.inl rfl) (fun w h => Holds.to h.choose_spec.2) ?_) ?_
      · intro j w hj hφ H
        rw [hwl] at hj
        rw [win_get hj]
        have hix : ((l.length : Int) - 1 - j).toNat = l.length - 1 - j := by omega
        refine VT.round hLR (Holds.to (by assumption)) rfl rfl ?_
        refine W.region ?_
        refine O.ex (Ex.assign rfl) rfl ?_
        refine O.nil ?_
        refine ⟨_, Holds.to (by assumption), fun w H => ?_⟩
        refine W.block ?_
        refine W.seq (fun K18 hK18 => ?_)
        refine W.seq (fun K19 hK19 => ?_)
        refine W.region ?_
        refine O.ex (by first | exact Ex.loadP Try.isAgg3 rfl | exact Ex.loadR Try.isAgg3 rfl | exact Ex.loadIn1 Try.isAgg3 rfl (Holds.to (by assumption))) rfl ?_
        refine O.ex (by first | exact Ex.loadP Try.isAgg3 rfl | exact Ex.loadR Try.isAgg3 rfl | exact Ex.loadIn1 Try.isAgg3 rfl (Holds.to (by assumption))) rfl ?_
        refine O.ex (Ex.geq rfl rfl) rfl ?_
        refine O.ex (Ex.move rfl) rfl ?_
        refine O.known (t := 48) (c := false) rfl (by first | rfl | decide | (refine decide_eq_false ?_; omega) | (simp; omega) | exact decide_eq_false (fun hh => hh rfl) | (refine decide_eq_false (fun hh => hh ?_); rw [hix]) | (refine decide_eq_true ?_; omega)) ?_
        refine O.guard_t rfl rfl ?_
        refine O.ex (by first | exact Ex.loadP Try.isAgg3 rfl | exact Ex.loadR Try.isAgg3 rfl | exact Ex.loadIn1 Try.isAgg3 rfl (Holds.to (by assumption))) rfl ?_
        refine O.guard_t rfl rfl ?_
        refine O.ex (by first | exact Ex.loadP Try.isAgg47 rfl | exact Ex.loadR Try.isAgg47 rfl | exact Ex.loadIn1 Try.isAgg47 rfl (Holds.to (by assumption))) rfl ?_
        refine O.guard_t rfl rfl ?_
        refine O.ex (by first | exact Ex.lenR Try.runUnderlying47 rfl | exact Ex.lenIn Try.runUnderlying47 rfl | exact Ex.lenL Try.runUnderlying47 rfl | exact Ex.len rfl Try.runUnderlying47 rfl) rfl ?_
        refine O.guard_t rfl rfl ?_
        refine O.ex (Ex.geq rfl rfl) rfl ?_
        refine O.ex (Ex.pick_f rfl rfl) rfl ?_
        refine O.ex (Ex.move rfl) rfl ?_
        refine O.known (t := 54) (c := false) rfl (by first | rfl | decide | (refine decide_eq_false ?_; omega) | (simp; omega) | exact decide_eq_false (fun hh => hh rfl) | (refine decide_eq_false (fun hh => hh ?_); rw [hix]) | (refine decide_eq_true ?_; omega)) ?_
        refine O.guard_t rfl rfl ?_
        refine O.ex (Ex.move rfl) rfl ?_
        refine O.guard_t rfl rfl ?_
        refine O.ex (by first | exact Ex.loadP Try.isAgg47 rfl | exact Ex.loadR Try.isAgg47 rfl | exact Ex.loadIn1 Try.isAgg47 rfl (Holds.to (by assumption))) rfl ?_
        refine O.guard_t rfl rfl ?_
        refine O.ex (by first | exact Ex.loadP Try.isAgg47 rfl | exact Ex.loadR Try.isAgg47 rfl | exact Ex.loadIn1 Try.isAgg47 rfl (Holds.to (by assumption))) rfl ?_
        refine O.guard_t rfl rfl ?_
        refine O.ex (by first | exact Ex.lenR Try.runUnderlying47 rfl | exact Ex.lenIn Try.runUnderlying47 rfl | exact Ex.lenL Try.runUnderlying47 rfl | exact Ex.len rfl Try.runUnderlying47 rfl) rfl ?_
        refine O.guard_t rfl rfl ?_
        refine O.ex (by first | exact Ex.subI rfl rfl | exact Ex.sub rfl rfl rfl) rfl ?_
        refine O.guard_t rfl rfl ?_
        refine O.ex (by first | exact Ex.loadP Try.isAgg3 rfl | exact Ex.loadR Try.isAgg3 rfl | exact Ex.loadIn1 Try.isAgg3 rfl (Holds.to (by assumption))) rfl ?_
        refine O.guard_t rfl rfl ?_
        refine O.ex (by first | exact Ex.subI rfl rfl | exact Ex.sub rfl rfl rfl) rfl ?_
        refine O.guard_t rfl rfl ?_
        refine O.ex (by first | exact Ex.idxR Try.runUnderlying47 Try.sizeOf9 rfl rfl | exact Ex.idxIn Try.runUnderlying47 Try.sizeOf9 rfl rfl | exact Ex.idxS Try.runUnderlying47 Try.sizeOf9 rfl rfl | exact Ex.idx Try.runUnderlying47 Try.sizeOf9 rfl rfl (by omega) (by omega)) rfl ?_
        refine O.guard_t rfl rfl ?_
        refine O.ex (by first | exact Ex.loadP Try.isAgg9 rfl | exact Ex.loadR Try.isAgg9 rfl | exact Ex.loadIn1 Try.isAgg9 rfl (Holds.to (by assumption))) rfl ?_
        refine O.guard_t rfl rfl ?_
        refine O.ex (Ex.neqS rfl rfl) rfl ?_
        refine O.ex (Ex.pick_f rfl rfl) rfl ?_
        refine O.nil ?_
        refine hK19 _ _ _ ?_
        refine W.known_f rfl (by first | rfl | decide | (refine decide_eq_false ?_; omega) | (simp; omega) | exact decide_eq_false (fun hh => hh rfl) | (refine decide_eq_false (fun hh => hh ?_); rw [hix]) | (refine decide_eq_true ?_; omega)) ?_
        refine W.skip ?_
        refine hK18 _ _ _ ?_
        refine W.seq (fun K20 hK20 => ?_)
        refine W.region ?_
        refine O.ex (by first | exact Ex.loadP Try.isAgg3 rfl | exact Ex.loadR Try.isAgg3 rfl | exact Ex.loadIn1 Try.isAgg3 rfl (Holds.to (by assumption))) rfl ?_
        refine O.ex (by first | exact Ex.addI rfl rfl | exact Ex.add rfl rfl rfl) rfl ?_
        first | refine O.storeP Try.sizeOf3 rfl rfl (fun w H => ?_) | refine O.storeR Try.sizeOf3 rfl rfl (fun w H => ?_)
        refine O.nil ?_
        refine hK20 _ _ _ ?_
        refine W.seq (fun K21 hK21 => ?_)
        refine W.region ?_
        refine O.ex (by first | exact Ex.loadP Try.isAgg3 rfl | exact Ex.loadR Try.isAgg3 rfl | exact Ex.loadIn1 Try.isAgg3 rfl (Holds.to (by assumption))) rfl ?_
        refine O.ex (by first | exact Ex.loadP Try.isAgg5 rfl | exact Ex.loadR Try.isAgg5 rfl | exact Ex.loadIn1 Try.isAgg5 rfl (Holds.to (by assumption))) rfl ?_
        refine O.ex (by first | exact Ex.convToI Try.runUnderlying5 Try.runUnderlying3 rfl | exact Ex.convW Try.runUnderlying5 Try.runUnderlying3 rfl) rfl ?_
        refine O.ex (Ex.geq rfl rfl) rfl ?_
        refine O.nil ?_
        refine hK21 _ _ _ ?_
        first | refine W.cond_p rfl (fun h71 => ?_) (fun h71 => ?_) | refine W.cond_b rfl (fun h71 => ?_) (fun h71 => ?_)
        · refine W.exit ?_
          exact ⟨_, Holds.to (by assumption), fun w H => .inr ⟨rfl, (j : Int) + 1, ⟨by omega, by omega⟩, Holds.to (by assumption)⟩⟩
        · refine W.skip ?_
          exact ⟨_, Holds.to (by assumption), fun w H => .inl ⟨rfl, .inr (by omega), Holds.to (by assumption)⟩⟩
      rintro _ w (⟨hφ, H⟩ | ⟨kk, ⟨hk1, hk2⟩, H⟩)
      all_goals refine rangeEnd (Holds.to (by assumption)) (by nofun) (fun w H => ?_)
      · skip
        refine hK16 _ _ _ ?_
        refine W.seq (fun K22 hK22 => ?_)
        refine W.region ?_
        refine O.ex (by first | exact Ex.loadP Try.isAgg3 rfl | exact Ex.loadR Try.isAgg3 rfl | exact Ex.loadIn1 Try.isAgg3 rfl (Holds.to (by assumption))) rfl ?_
        refine O.ex (by first | exact Ex.loadP Try.isAgg47 rfl | exact Ex.loadR Try.isAgg47 rfl | exact Ex.loadIn1 Try.isAgg47 rfl (Holds.to (by assumption))) rfl ?_
        refine O.ex (by first | exact Ex.lenR Try.runUnderlying47 rfl | exact Ex.lenIn Try.runUnderlying47 rfl | exact Ex.lenL Try.runUnderlying47 rfl | exact Ex.len rfl Try.runUnderlying47 rfl) rfl ?_
        refine O.ex (Ex.minI rfl rfl) rfl ?_
        refine O.ex (Ex.assign rfl) rfl ?_
        refine O.nil ?_
        refine hK22 _ _ _ ?_
        refine W.seq (fun K23 hK23 => ?_)
        refine W.region ?_
        have H := rgS_open.2 ⟨vv, at_, f, hr, Holds.to (by assumption)⟩
        refine O.ex (Ex.move rfl) rfl ?_
        refine O.callF Try.call40 rfl rfl (CT.mono (lenSG_ct (Holds.to (by assumption))) ?_)
        rintro _ w ⟨rfl, H⟩
        refine O.ex (Ex.move rfl) rfl ?_
        refine O.ex (Ex.eqlI rfl rfl) rfl ?_
        refine O.ex (Ex.move rfl) rfl ?_
        refine O.known (t := 80) (c := true) rfl (by first | rfl | decide | (refine decide_eq_false ?_; omega) | (simp; omega) | exact decide_eq_false (fun hh => hh rfl) | (refine decide_eq_false (fun hh => hh ?_); rw [hix]) | (refine decide_eq_true ?_; omega)) ?_
        refine O.guard_t rfl rfl ?_
        refine O.ex (by first | exact Ex.loadP Try.isAgg3 rfl | exact Ex.loadR Try.isAgg3 rfl | exact Ex.loadIn1 Try.isAgg3 rfl (Holds.to (by assumption))) rfl ?_
        refine O.guard_t rfl rfl ?_
        refine O.ex (Ex.move rfl) rfl ?_
        refine O.guard_t rfl rfl ?_
        refine O.ex (by first | exact Ex.loadP Try.isAgg5 rfl | exact Ex.loadR Try.isAgg5 rfl | exact Ex.loadIn1 Try.isAgg5 rfl (Holds.to (by assumption))) rfl ?_
        refine O.guard_t rfl rfl ?_
        refine O.ex (by first | exact Ex.convToI Try.runUnderlying5 Try.runUnderlying3 rfl | exact Ex.convW Try.runUnderlying5 Try.runUnderlying3 rfl) rfl ?_
        refine O.guard_t rfl rfl ?_
        refine O.ex (Ex.maxI rfl rfl) rfl ?_
        refine O.guard_t rfl rfl ?_
        refine O.ex (Ex.minI rfl rfl) rfl ?_
        refine O.guard_t rfl rfl ?_
        refine O.ex (Ex.eqlI rfl rfl) rfl ?_
        refine O.guard_t rfl rfl ?_
        refine O.ex (Ex.move rfl) rfl ?_
        refine O.known (t := 88) (c := true) rfl (by first | rfl | decide | (refine decide_eq_false ?_; omega) | (simp; omega) | exact decide_eq_false (fun hh => hh rfl) | (refine decide_eq_false (fun hh => hh ?_); rw [hix]) | (refine decide_eq_true ?_; omega)) ?_
        refine O.guard_f rfl rfl rfl rfl ?_
        refine O.guard_f rfl rfl rfl rfl ?_
        refine O.guard_f rfl rfl rfl rfl ?_
        refine O.guard_u rfl rfl rfl ?_
        refine O.guard_u rfl rfl rfl ?_
        refine O.guard_f rfl rfl rfl rfl ?_
        refine O.guard_t rfl rfl ?_
        refine O.ex (Ex.pick_t rfl rfl) rfl ?_
        refine O.ex (Ex.pick_t rfl rfl) rfl ?_
        first | refine O.storeP Try.sizeOf4 rfl rfl (fun w H => ?_) | refine O.storeR Try.sizeOf4 rfl rfl (fun w H => ?_)
        refine O.nil ?_
        refine hK23 _ _ _ ?_
        refine W.ret ?_
        try dsimp only [thenQ, blockQ, retQ]
        first | refine ⟨_, ⟨_, _, _, rfl, rfl, loadVar_one Try.isAgg4, rfl⟩, ?_⟩ | (refine retD_mark ?_; intro w H; refine ⟨_, ⟨_, _, _, rfl, rfl, loadVar_one Try.isAgg4, rfl⟩, ?_⟩) | (refine retD_mark2 ?_; intro w H; refine ⟨_, ⟨_, _, _, rfl, rfl, loadVar_one Try.isAgg4, rfl⟩, ?_⟩)
        exact ⟨rfl, Holds.base_below (L := []) (Holds.to (by assumption))⟩
      · skip
        refine W.exit ?_
        refine hK16 _ _ _ ?_
        refine W.seq (fun K24 hK24 => ?_)
        refine W.region ?_
        refine O.ex (by first | exact Ex.loadP Try.isAgg3 rfl | exact Ex.loadR Try.isAgg3 rfl | exact Ex.loadIn1 Try.isAgg3 rfl (Holds.to (by assumption))) rfl ?_
        refine O.ex (by first | exact Ex.loadP Try.isAgg47 rfl | exact Ex.loadR Try.isAgg47 rfl | exact Ex.loadIn1 Try.isAgg47 rfl (Holds.to (by assumption))) rfl ?_
        refine O.ex (by first | exact Ex.lenR Try.runUnderlying47 rfl | exact Ex.lenIn Try.runUnderlying47 rfl | exact Ex.lenL Try.runUnderlying47 rfl | exact Ex.len rfl Try.runUnderlying47 rfl) rfl ?_
        refine O.ex (Ex.minI rfl rfl) rfl ?_
        refine O.ex (Ex.assign rfl) rfl ?_
        refine O.nil ?_
        refine hK24 _ _ _ ?_
        refine W.seq (fun K25 hK25 => ?_)
        refine W.region ?_
        have H := rgS_open.2 ⟨vv, at_, f, hr, Holds.to (by assumption)⟩
        refine O.ex (Ex.move rfl) rfl ?_
        refine O.callF Try.call40 rfl rfl (CT.mono (lenSG_ct (Holds.to (by assumption))) ?_)
        rintro _ w ⟨rfl, H⟩
        refine O.ex (Ex.move rfl) rfl ?_
        refine O.ex (Ex.eqlI rfl rfl) rfl ?_
        refine O.ex (Ex.move rfl) rfl ?_
        refine O.known (t := 80) (c := true) rfl (by first | rfl | decide | (refine decide_eq_false ?_; omega) | (simp; omega) | exact decide_eq_false (fun hh => hh rfl) | (refine decide_eq_false (fun hh => hh ?_); rw [hix]) | (refine decide_eq_true ?_; omega)) ?_
        refine O.guard_t rfl rfl ?_
        refine O.ex (by first | exact Ex.loadP Try.isAgg3 rfl | exact Ex.loadR Try.isAgg3 rfl | exact Ex.loadIn1 Try.isAgg3 rfl (Holds.to (by assumption))) rfl ?_
        refine O.guard_t rfl rfl ?_
        refine O.ex (Ex.move rfl) rfl ?_
        refine O.guard_t rfl rfl ?_
        refine O.ex (by first | exact Ex.loadP Try.isAgg5 rfl | exact Ex.loadR Try.isAgg5 rfl | exact Ex.loadIn1 Try.isAgg5 rfl (Holds.to (by assumption))) rfl ?_
        refine O.guard_t rfl rfl ?_
        refine O.ex (by first | exact Ex.convToI Try.runUnderlying5 Try.runUnderlying3 rfl | exact Ex.convW Try.runUnderlying5 Try.runUnderlying3 rfl) rfl ?_
        refine O.guard_t rfl rfl ?_
        refine O.ex (Ex.maxI rfl rfl) rfl ?_
        refine O.guard_t rfl rfl ?_
        refine O.ex (Ex.minI rfl rfl) rfl ?_
        refine O.guard_t rfl rfl ?_
        refine O.ex (Ex.eqlI rfl rfl) rfl ?_
        refine O.guard_t rfl rfl ?_
        refine O.ex (Ex.move rfl) rfl ?_
        refine O.known (t := 88) (c := true) rfl (by first | rfl | decide | (refine decide_eq_false ?_; omega) | (simp; omega) | exact decide_eq_false (fun hh => hh rfl) | (refine decide_eq_false (fun hh => hh ?_); rw [hix]) | (refine decide_eq_true ?_; omega)) ?_
        refine O.guard_f rfl rfl rfl rfl ?_
        refine O.guard_f rfl rfl rfl rfl ?_
        refine O.guard_f rfl rfl rfl rfl ?_
        refine O.guard_u rfl rfl rfl ?_
        refine O.guard_u rfl rfl rfl ?_
        refine O.guard_f rfl rfl rfl rfl ?_
        refine O.guard_t rfl rfl ?_
        refine O.ex (Ex.pick_t rfl rfl) rfl ?_
        refine O.ex (Ex.pick_t rfl rfl) rfl ?_
        first | refine O.storeP Try.sizeOf4 rfl rfl (fun w H => ?_) | refine O.storeR Try.sizeOf4 rfl rfl (fun w H => ?_)
        refine O.nil ?_
        refine hK25 _ _ _ ?_
        refine W.ret ?_
        try dsimp only [thenQ, blockQ, retQ]
        first | refine ⟨_, ⟨_, _, _, rfl, rfl, loadVar_one Try.isAgg4, rfl⟩, ?_⟩ | (refine retD_mark ?_; intro w H; refine ⟨_, ⟨_, _, _, rfl, rfl, loadVar_one Try.isAgg4, rfl⟩, ?_⟩) | (refine retD_mark2 ?_; intro w H; refine ⟨_, ⟨_, _, _, rfl, rfl, loadVar_one Try.isAgg4, rfl⟩, ?_⟩)
        exact ⟨rfl, Holds.base_below (L := []) (Holds.to (by assumption))⟩
theorem ringGoes_row {w0 : World} {lv : Value} {l : List ByteArray} {m q : Int} (hm : (Lit.int .u8 m).wf = true) (hx : SlIn w0 1 (fun s : ByteArray => [.string s]) lv l) (hg : ∀ x ∈ l, x.size ≤ maxLen) (hl0 : l.length ≤ maxLen) (hq : (Lit.int .u8 q).wf = true) :
    CT Try.prog 7 [.int .u8 m, lv, .int .u8 q] w0 fun u w' => u = .bool true ∧ RowKit.Below w0.heap.size w0 w' :=
  ringGoes_ct hm hx (by unfold maxLen at hl0; omega) hq
end Go.Proofs.Ytikdblejkmaloaa
