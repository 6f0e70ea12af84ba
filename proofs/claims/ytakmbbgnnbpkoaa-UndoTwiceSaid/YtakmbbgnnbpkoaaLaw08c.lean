import Derived.Test.YtakmbbgnnbpkoaaLaw08b
--ARR
--INF
--DEEP
--LOADS loadRT loadRA loadRN loadRM
--AGGLOADS loadRArc
namespace Go.Proofs.Ytakmbbgnnbpkoaa
open Go.Rr Go Gr
set_option linter.unusedVariables false
def doAll (n most : Int) (s : St) (l : List Chg) : St := l.foldl (doS n most) s
theorem doAll_snoc (n most : Int) (s : St) (l : List Chg) (c : Chg) : doAll n most s (l ++ [c]) = doS n most (doAll n most s l) c := by unfold doAll; rw [List.foldl_append]; rfl
theorem ok_all {n most : Int} : ∀ (l : List Chg) (s : St), GOk n most s → GOk n most (doAll n most s l)
  | [], s, h => h
  | c :: l, s, h => ok_all l _ (ok_do h c)
theorem take_getCh (xs : List Chg) {i : Nat} (h : i < xs.length) : xs.take (i + 1) = xs.take i ++ [xs.getD i default] := by
  rw [List.take_succ_eq_append_getElem h]; simp [List.getD_eq_getElem?_getD, h]
set_option maxHeartbeats 1000000 in
theorem made08_ct {w w0 : World} {q : Int} {v : Value} {l : List Chg} {L : List HProp} (hq : (Lit.int .u8 q).wf = true) (hx : SlIn w0 6 Chg.enc v l) (hl : l.length ≤ 9223372036854775807) (H : Holds w (base w0 :: L)) :
    CT Try.prog 18 [.int .u8 q, v] w fun x w' => ∃ g r, GOk (1 + q % 24) 64 (doAll (1 + q % 24) 64 noS (l.take 150)) ∧ x = .tuple #[.pointer (some ⟨g, 0, none⟩), .pointer (some ⟨r, 0, none⟩)] ∧ Holds w' (Gh g (1 + q % 24) 64 (doAll (1 + q % 24) 64 noS (l.take 150)) :: Rg r (1 + q % 24) 64 (doAll (1 + q % 24) 64 noS (l.take 150)) :: base w0 :: L) := by
  obtain ⟨q0, q1⟩ := bounds_u8 hq
  obtain ⟨n, hn⟩ : ∃ n, n = (1 : Int) + q % 24 := ⟨_, rfl⟩
  rw [← hn]
  have ok0 : GOk n 64 noS := ok_none (by omega) (by omega) (by omega) (by omega)
  refine CT.enter (N := 49) Try.func18 rfl rfl rfl rfl ?_
  refine W.seq (fun K0 hK0 => ?_)
  refine W.region ?_
  refine O.ex (Ex.assign rfl) rfl ?_
  refine O.ex (Ex.assign rfl) rfl ?_
  refine O.nil ?_
  refine hK0 _ _ _ ?_
  refine W.seq (fun K1 hK1 => ?_)
  refine W.region ?_
  refine O.ex (Ex.move rfl) rfl ?_
  refine O.ex (by first | exact Ex.convToI Try.runUnderlying5 Try.runUnderlying3 rfl | exact Ex.convW Try.runUnderlying5 Try.runUnderlying3 rfl) rfl ?_
  refine O.ex (by first | exact Ex.remI rfl rfl | exact Ex.rem rfl rfl (by omega) rfl) rfl ?_
  refine O.ex (by first | exact Ex.addI rfl rfl | exact Ex.add rfl rfl rfl) rfl ?_
  refine O.ex (Ex.assign rfl) rfl ?_
  refine O.nil ?_
  refine hK1 _ _ _ ?_
  refine W.seq (fun K2 hK2 => ?_)
  refine W.region ?_
  rw [← hn]
  refine O.ex (Ex.move rfl) rfl ?_
  refine O.callF Try.call25 rfl rfl (CT.mono (gnew_ct (n := n) (most := 64) (Holds.to (by assumption))) ?_)
  rintro _ w (⟨hno, -⟩ | ⟨hyes, g, rfl, H⟩)
  · exact absurd ⟨⟨by omega, by omega⟩, by omega, by omega⟩ hno
  refine O.ex (Ex.move rfl) rfl ?_
  refine O.ex (Ex.extract rfl rfl) rfl ?_
  refine O.ex (Ex.extract rfl rfl) rfl ?_
  refine O.ex (Ex.assign rfl) rfl ?_
  refine O.ex (Ex.assign rfl) rfl ?_
  refine O.nil ?_
  refine hK2 _ _ _ ?_
  refine W.seq (fun K3 hK3 => ?_)
  refine W.region ?_
  refine O.ex (Ex.move rfl) rfl ?_
  refine O.callF Try.call27 rfl rfl (CT.mono (rnew_ct (Holds.to (by assumption))) ?_)
  rintro _ w ⟨r, rfl, H⟩
  refine O.ex (Ex.assign rfl) rfl ?_
  refine O.nil ?_
  refine hK3 _ _ _ ?_
  refine W.seq (fun K4 hK4 => ?_)
  refine W.seq (fun K5 hK5 => ?_)
  refine W.region ?_
  refine O.ex (Ex.move rfl) rfl ?_
  refine O.ex (Ex.nilEq Try.runUnderlying24 rfl rfl) rfl ?_
  refine O.nil ?_
  refine hK5 _ _ _ ?_
  refine W.known_f rfl (by first | rfl | decide) ?_
  refine W.skip ?_
  refine hK4 _ _ _ ?_
  refine W.seq (fun K6 hK6 => ?_)
  refine W.seq (fun K7 hK7 => ?_)
  refine W.region ?_
  refine O.ex (Ex.assign rfl) rfl ?_
  refine O.nil ?_
  refine hK7 _ _ _ ?_
  refine W.block ?_
  refine W.loop (σ := Nat) (fun i => [(1, v), (7, .pointer (some ⟨g, 0, none⟩)), (9, .pointer (some ⟨r, 0, none⟩)), (10, .int .i64 (i : Int))]) (fun i ds w => ds = [] ∧ i ≤ l.length ∧ i ≤ 150 ∧ Holds w (Gh g n 64 (doAll n 64 noS (l.take i)) :: Rg r n 64 (doAll n 64 noS (l.take i)) :: base w0 :: L)) (fun i => l.length - i) 0 ⟨rfl, rfl, rfl, rfl, trivial⟩ ⟨rfl, by omega, by omega, Holds.to (by assumption)⟩ ?_
  clear H
  rintro i _ w ⟨rfl, hi, hi4, H⟩
  have hg := ok_all (l.take i) noS ok0
  refine W.seq (fun K8 hK8 => ?_)
  refine W.seq (fun K9 hK9 => ?_)
  refine W.region ?_
  refine O.ex (Ex.move rfl) rfl ?_
  refine O.ex (Ex.move rfl) rfl ?_
  refine O.ex (by first | exact Ex.lenN Try.runUnderlying22 rfl | exact Ex.lenIn Try.runUnderlying22 rfl | exact Ex.lenL Try.runUnderlying22 rfl | exact Ex.len rfl Try.runUnderlying22 rfl) rfl ?_
  refine O.ex (Ex.lss rfl rfl) rfl ?_
  refine O.ex (Ex.move rfl) rfl ?_
  first | refine O.split_p (t := 29) rfl (fun h1 => ?_) (fun h1 => ?_) | refine O.split (t := 29) rfl (fun h1 => ?_) (fun h1 => ?_)
  · refine O.guard_t rfl rfl ?_
    refine O.ex (Ex.move rfl) rfl ?_
    refine O.guard_t rfl rfl ?_
    refine O.ex (Ex.lss rfl rfl) rfl ?_
    refine O.ex (Ex.pick_t rfl rfl) rfl ?_
    refine O.nil ?_
    refine hK9 _ _ _ ?_
    first | refine W.cond_p rfl (fun hlt => ?_) (fun hge => ?_) | refine W.cond_b rfl (fun hlt => ?_) (fun hge => ?_)
    · refine W.skip ?_
      refine hK8 _ _ _ ?_
      refine W.seq (fun K10 hK10 => ?_)
      refine W.block ?_
      refine W.seq (fun K11 hK11 => ?_)
      refine W.region ?_
      have hi0 : (0 : Int) ≤ (i : Int) := by omega
      have hi1 : (i : Int) < l.length := h1
      have hil : i < l.length := by omega
      have e1 : doS n 64 (doAll n 64 noS (l.take i)) (l.getD i default) = doAll n 64 noS (l.take (i + 1)) := by rw [take_getCh l hil, doAll_snoc]
      refine O.ex (Ex.move rfl) rfl ?_
      refine O.ex (Ex.move rfl) rfl ?_
      refine O.ex (Ex.move rfl) rfl ?_
      refine O.ex (by first | exact Ex.idxIn Try.runUnderlying22 Try.sizeOf47 rfl rfl | exact Ex.idxN Try.runUnderlying22 Try.sizeOf47 rfl rfl | exact Ex.idxSN Try.runUnderlying22 Try.sizeOf47 rfl rfl | exact Ex.idx Try.runUnderlying22 Try.sizeOf47 rfl rfl (by omega) (by omega)) rfl ?_
      refine O.ex (by first | exact Ex.loadRArc Try.isAgg47 Try.sizeOf47 rfl | exact Ex.loadAggP Try.isAgg47 Try.sizeOf47 rfl | exact Ex.loadAggN Try.isAgg47 Try.sizeOf47 rfl | exact Ex.loadIn Try.isAgg47 Try.sizeOf47 rfl (Holds.to (by assumption))) rfl ?_
      refine O.callF Try.call28 rfl rfl (CT.mono (do_ct (c := l.getD i default) hg (Holds.to (by assumption))) ?_)
      rintro _ w ⟨-, H⟩
      refine O.nil ?_
      refine hK11 _ _ _ ?_
      refine W.region ?_
      refine O.ex (Ex.move rfl) rfl ?_
      refine O.ex (Ex.move rfl) rfl ?_
      refine O.ex (Ex.move rfl) rfl ?_
      refine O.ex (by first | exact Ex.idxIn Try.runUnderlying22 Try.sizeOf47 rfl rfl | exact Ex.idxN Try.runUnderlying22 Try.sizeOf47 rfl rfl | exact Ex.idxSN Try.runUnderlying22 Try.sizeOf47 rfl rfl | exact Ex.idx Try.runUnderlying22 Try.sizeOf47 rfl rfl (by omega) (by omega)) rfl ?_
      refine O.ex (by first | exact Ex.loadRArc Try.isAgg47 Try.sizeOf47 rfl | exact Ex.loadAggP Try.isAgg47 Try.sizeOf47 rfl | exact Ex.loadAggN Try.isAgg47 Try.sizeOf47 rfl | exact Ex.loadIn Try.isAgg47 Try.sizeOf47 rfl (Holds.to (by assumption))) rfl ?_
      refine O.callF Try.call29 rfl rfl (CT.mono (doRef_ct (c := l.getD i default) (Holds.to (by assumption))) ?_)
      rintro _ w ⟨-, H⟩
      rw [e1] at H
      refine O.nil ?_
      refine hK10 _ _ _ ?_
      refine W.region ?_
      refine O.ex (Ex.move rfl) rfl ?_
      refine O.ex (by first | exact Ex.addI rfl rfl | exact Ex.add rfl rfl rfl) rfl ?_
      refine O.ex (Ex.assign rfl) rfl ?_
      refine O.nil ?_
      exact ⟨i + 1, ⟨rfl, rfl, rfl, rfl, trivial⟩, ⟨rfl, by omega, by omega, Holds.to (by assumption)⟩, by omega⟩
    · refine W.exit ?_
      refine hK6 _ _ _ ?_
      refine W.seq (fun K12 hK12 => ?_)
      refine W.region ?_
      refine O.ex (Ex.move rfl) rfl ?_
      refine O.ex (Ex.move rfl) rfl ?_
      refine O.ex (Ex.assign rfl) rfl ?_
      refine O.ex (Ex.assign rfl) rfl ?_
      refine O.nil ?_
      refine hK12 _ _ _ ?_
      refine W.ret ?_
      try dsimp only [thenQ, blockQ, retQ]
      first | refine ⟨_, ⟨_, _, rfl, rfl, _, _, rfl, rfl, rfl⟩, ?_⟩ | (refine retD_mark ?_; intro w H; refine ⟨_, ⟨_, _, rfl, rfl, _, _, rfl, rfl, rfl⟩, ?_⟩) | (refine retD_mark2 ?_; intro w H; refine ⟨_, ⟨_, _, rfl, rfl, _, _, rfl, rfl, rfl⟩, ?_⟩)
      have e : l.take 150 = l.take i := by
        by_cases h : i = l.length
        · rw [h, List.take_length, List.take_of_length_le (by omega)]
        · rw [show i = 150 by omega]
      rw [e]
      exact ⟨g, r, hg, rfl, Holds.to (by assumption)⟩
  · refine O.guard_f rfl rfl rfl rfl ?_
    refine O.guard_f rfl rfl rfl rfl ?_
    refine O.ex (Ex.pick_f rfl rfl) rfl ?_
    refine O.nil ?_
    refine hK9 _ _ _ ?_
    refine W.cond_f rfl ?_
    refine W.exit ?_
    refine hK6 _ _ _ ?_
    refine W.seq (fun K13 hK13 => ?_)
    refine W.region ?_
    refine O.ex (Ex.move rfl) rfl ?_
    refine O.ex (Ex.move rfl) rfl ?_
    refine O.ex (Ex.assign rfl) rfl ?_
    refine O.ex (Ex.assign rfl) rfl ?_
    refine O.nil ?_
    refine hK13 _ _ _ ?_
    refine W.ret ?_
    try dsimp only [thenQ, blockQ, retQ]
    first | refine ⟨_, ⟨_, _, rfl, rfl, _, _, rfl, rfl, rfl⟩, ?_⟩ | (refine retD_mark ?_; intro w H; refine ⟨_, ⟨_, _, rfl, rfl, _, _, rfl, rfl, rfl⟩, ?_⟩) | (refine retD_mark2 ?_; intro w H; refine ⟨_, ⟨_, _, rfl, rfl, _, _, rfl, rfl, rfl⟩, ?_⟩)
    have e : l.take 150 = l.take i := by
      by_cases h : i = l.length
      · rw [h, List.take_length, List.take_of_length_le (by omega)]
      · rw [show i = 150 by omega]
    rw [e]
    exact ⟨g, r, hg, rfl, Holds.to (by assumption)⟩
def awA : Arc := ⟨2, 3, 5, false⟩
def awS1 : St := insS 4 2 noS 0 awA
def awS2 : St := insS 4 2 awS1 0 awA
def awS3 : St := insS 4 2 awS2 1 awA
def awS4 : St := insS 4 2 awS3 2 awA
def awS5 : St := turnS awS4 0 true
def awS6 : St := turnS awS5 0 true
def awS7 : St := delS awS6 2
theorem aw_c1 : insC 4 2 noS 0 awA = 0 := by decide +kernel
theorem aw_c2 : insC 4 2 awS1 0 awA = 4 := by decide +kernel
theorem aw_c3 : insC 4 2 awS2 1 awA = 0 := by decide +kernel
theorem aw_c4 : insC 4 2 awS3 2 awA = 2 := by decide +kernel
theorem aw_b1 : best awS4 2 3 = (5, 0) := by decide +kernel
theorem aw_b2 : (best awS5 2 3).2 = 1 := by decide +kernel
theorem aw_t : turnC awS5 0 true = 5 := by decide +kernel
theorem aw_d : thC awS6 2 = 3 := by decide +kernel
theorem aw_n : cnt awS7 = 2 := by decide +kernel
set_option maxHeartbeats 1000000 in
theorem awake08_ct {w : World} {L : List HProp} (H : Holds w L) : CT Try.prog 17 [] w fun u w' => u = .bool true ∧ Holds w' L := by
  have g0 : GOk 4 2 noS := ok_none (by omega) (by omega) (by omega) (by omega)
  have g1 : GOk 4 2 awS1 := ok_ins g0 _ _
  have g2 : GOk 4 2 awS2 := ok_ins g1 _ _
  have g3 : GOk 4 2 awS3 := ok_ins g2 _ _
  have g4 : GOk 4 2 awS4 := ok_ins g3 _ _
  have g5 : GOk 4 2 awS5 := ok_turn g4 _ _
  have g6 : GOk 4 2 awS6 := ok_turn g5 _ _
  refine CT.enter (N := 96) Try.func17 rfl rfl rfl rfl ?_
  refine W.seq (fun K0 hK0 => ?_)
  refine W.region ?_
  refine O.ex (Ex.assign rfl) rfl ?_
  refine O.nil ?_
  refine hK0 _ _ _ ?_
  refine W.seq (fun K1 hK1 => ?_)
  refine W.region ?_
  refine O.callF Try.call25 rfl rfl (CT.mono (gnew_ct (n := 4) (most := 2) (by assumption)) ?_)
  rintro _ w (⟨hno, -⟩ | ⟨-, g, rfl, H⟩)
  · exact absurd ⟨⟨by omega, by omega⟩, by omega, by omega⟩ hno
  refine O.ex (Ex.move rfl) rfl ?_
  refine O.ex (Ex.extract rfl rfl) rfl ?_
  refine O.ex (Ex.extract rfl rfl) rfl ?_
  refine O.ex (Ex.assign rfl) rfl ?_
  refine O.ex (Ex.assign rfl) rfl ?_
  refine O.nil ?_
  refine hK1 _ _ _ ?_
  refine W.seq (fun K2 hK2 => ?_)
  refine W.region ?_
  refine O.callF Try.call25 rfl rfl (CT.mono (gnew_ct (n := 25) (most := 1) (by assumption)) ?_)
  rintro _ w (⟨-, rfl, H⟩ | ⟨hno, -⟩)
  rotate_left
  · exact absurd hno.1.2 (by omega)
  refine O.ex (Ex.move rfl) rfl ?_
  refine O.ex (Ex.extract rfl rfl) rfl ?_
  refine O.ex (Ex.extract rfl rfl) rfl ?_
  refine O.ex (Ex.assign rfl) rfl ?_
  refine O.ex (Ex.assign rfl) rfl ?_
  refine O.nil ?_
  refine hK2 _ _ _ ?_
  refine W.seq (fun K3 hK3 => ?_)
  refine W.seq (fun K4 hK4 => ?_)
  refine W.region ?_
  refine O.ex (Ex.move rfl) rfl ?_
  refine O.ex (Ex.nilEq Try.runUnderlying24 rfl rfl) rfl ?_
  refine O.ex (Ex.move rfl) rfl ?_
  refine O.known (t := 23) (c := false) rfl (by first | rfl | decide | exact decide_eq_true aw_c1 | exact decide_eq_true aw_c2 | exact decide_eq_true aw_c3 | exact decide_eq_true aw_c4 | exact decide_eq_true aw_b2 | exact decide_eq_true aw_t | exact decide_eq_true aw_d | exact decide_eq_true (congrArg Prod.fst aw_b1) | exact decide_eq_true (congrArg Prod.snd aw_b1)) ?_
  refine O.guard_t rfl rfl ?_
  refine O.ex (Ex.move rfl) rfl ?_
  refine O.guard_t rfl rfl ?_
  refine O.ex (Ex.neqI rfl rfl) rfl ?_
  refine O.ex (Ex.pick_f rfl rfl) rfl ?_
  refine O.ex (Ex.move rfl) rfl ?_
  refine O.known (t := 27) (c := false) rfl (by first | rfl | decide | exact decide_eq_true aw_c1 | exact decide_eq_true aw_c2 | exact decide_eq_true aw_c3 | exact decide_eq_true aw_c4 | exact decide_eq_true aw_b2 | exact decide_eq_true aw_t | exact decide_eq_true aw_d | exact decide_eq_true (congrArg Prod.fst aw_b1) | exact decide_eq_true (congrArg Prod.snd aw_b1)) ?_
  refine O.guard_t rfl rfl ?_
  refine O.ex (Ex.move rfl) rfl ?_
  refine O.guard_t rfl rfl ?_
  refine O.ex (Ex.neqI rfl rfl) rfl ?_
  refine O.ex (Ex.pick_f rfl rfl) rfl ?_
  refine O.nil ?_
  refine hK4 _ _ _ ?_
  refine W.known_f rfl (by first | rfl | decide | exact decide_eq_true aw_c1 | exact decide_eq_true aw_c2 | exact decide_eq_true aw_c3 | exact decide_eq_true aw_c4 | exact decide_eq_true aw_b2 | exact decide_eq_true aw_t | exact decide_eq_true aw_d | exact decide_eq_true (congrArg Prod.fst aw_b1) | exact decide_eq_true (congrArg Prod.snd aw_b1)) ?_
  refine W.skip ?_
  refine hK3 _ _ _ ?_
  refine W.seq (fun K5 hK5 => ?_)
  refine W.region ?_
  refine O.ex (Ex.move rfl) rfl ?_
  refine O.ex (Ex.build rfl (bld31_0_1_2 _ _ _ (by first | rfl | assumption) (by first | rfl | assumption) (by first | rfl | assumption))) rfl ?_
  refine O.callF Try.call32 rfl rfl (CT.mono (ginsert_ct (a := awA) g0 (Holds.to (by assumption))) ?_)
  rintro _ w ⟨rfl, H⟩
  have H : Holds w (Gh g 4 2 awS1 :: L) := Holds.to H
  refine O.ex (Ex.assign rfl) rfl ?_
  refine O.nil ?_
  refine hK5 _ _ _ ?_
  refine W.seq (fun K6 hK6 => ?_)
  refine W.region ?_
  refine O.ex (Ex.move rfl) rfl ?_
  refine O.ex (Ex.build rfl (bld31_0_1_2 _ _ _ (by first | rfl | assumption) (by first | rfl | assumption) (by first | rfl | assumption))) rfl ?_
  refine O.callF Try.call32 rfl rfl (CT.mono (ginsert_ct (a := awA) g1 (Holds.to (by assumption))) ?_)
  rintro _ w ⟨rfl, H⟩
  have H : Holds w (Gh g 4 2 awS2 :: L) := Holds.to H
  refine O.ex (Ex.assign rfl) rfl ?_
  refine O.nil ?_
  refine hK6 _ _ _ ?_
  refine W.seq (fun K7 hK7 => ?_)
  refine W.region ?_
  refine O.ex (Ex.move rfl) rfl ?_
  refine O.ex (Ex.build rfl (bld31_0_1_2 _ _ _ (by first | rfl | assumption) (by first | rfl | assumption) (by first | rfl | assumption))) rfl ?_
  refine O.callF Try.call32 rfl rfl (CT.mono (ginsert_ct (a := awA) g2 (Holds.to (by assumption))) ?_)
  rintro _ w ⟨rfl, H⟩
  have H : Holds w (Gh g 4 2 awS3 :: L) := Holds.to H
  refine O.ex (Ex.assign rfl) rfl ?_
  refine O.nil ?_
  refine hK7 _ _ _ ?_
  refine W.seq (fun K8 hK8 => ?_)
  refine W.region ?_
  refine O.ex (Ex.move rfl) rfl ?_
  refine O.ex (Ex.build rfl (bld31_0_1_2 _ _ _ (by first | rfl | assumption) (by first | rfl | assumption) (by first | rfl | assumption))) rfl ?_
  refine O.callF Try.call32 rfl rfl (CT.mono (ginsert_ct (a := awA) g3 (Holds.to (by assumption))) ?_)
  rintro _ w ⟨rfl, H⟩
  have H : Holds w (Gh g 4 2 awS4 :: L) := Holds.to H
  refine O.ex (Ex.assign rfl) rfl ?_
  refine O.nil ?_
  refine hK8 _ _ _ ?_
  refine W.seq (fun K9 hK9 => ?_)
  refine W.region ?_
  refine O.ex (Ex.move rfl) rfl ?_
  refine O.callF Try.call19 rfl rfl (CT.mono (gbest_ct g4 (Holds.to (by assumption))) ?_)
  rintro _ w ⟨rfl, H⟩
  refine O.ex (Ex.move rfl) rfl ?_
  refine O.ex (Ex.extract rfl rfl) rfl ?_
  refine O.ex (Ex.extract rfl rfl) rfl ?_
  refine O.ex (Ex.assign rfl) rfl ?_
  refine O.ex (Ex.assign rfl) rfl ?_
  refine O.nil ?_
  refine hK9 _ _ _ ?_
  refine W.seq (fun K10 hK10 => ?_)
  refine W.region ?_
  refine O.ex (Ex.move rfl) rfl ?_
  refine O.callF Try.call34 rfl rfl (CT.mono (gClose_ct (Holds.to (by assumption))) ?_)
  rintro _ w ⟨-, H⟩
  have H : Holds w (Gh g 4 2 awS5 :: L) := Holds.to H
  refine O.nil ?_
  refine hK10 _ _ _ ?_
  refine W.seq (fun K11 hK11 => ?_)
  refine W.region ?_
  refine O.ex (Ex.move rfl) rfl ?_
  refine O.callF Try.call19 rfl rfl (CT.mono (gbest_ct g5 (Holds.to (by assumption))) ?_)
  rintro _ w ⟨rfl, H⟩
  refine O.ex (Ex.move rfl) rfl ?_
  refine O.ex (Ex.extract rfl rfl) rfl ?_
  refine O.ex (Ex.extract rfl rfl) rfl ?_
  refine O.ex (Ex.assign rfl) rfl ?_
  refine O.ex (Ex.assign rfl) rfl ?_
  refine O.nil ?_
  refine hK11 _ _ _ ?_
  refine W.seq (fun K12 hK12 => ?_)
  refine W.region ?_
  refine O.ex (Ex.move rfl) rfl ?_
  refine O.ex (Ex.eqlI rfl rfl) rfl ?_
  refine O.ex (Ex.move rfl) rfl ?_
  refine O.known (t := 57) (c := true) rfl (by first | rfl | decide | exact decide_eq_true aw_c1 | exact decide_eq_true aw_c2 | exact decide_eq_true aw_c3 | exact decide_eq_true aw_c4 | exact decide_eq_true aw_b2 | exact decide_eq_true aw_t | exact decide_eq_true aw_d | exact decide_eq_true (congrArg Prod.fst aw_b1) | exact decide_eq_true (congrArg Prod.snd aw_b1)) ?_
  refine O.guard_t rfl rfl ?_
  refine O.ex (Ex.move rfl) rfl ?_
  refine O.guard_t rfl rfl ?_
  refine O.ex (Ex.eqlI rfl rfl) rfl ?_
  refine O.ex (Ex.pick_t rfl rfl) rfl ?_
  refine O.ex (Ex.move rfl) rfl ?_
  refine O.known (t := 61) (c := true) rfl (by first | rfl | decide | exact decide_eq_true aw_c1 | exact decide_eq_true aw_c2 | exact decide_eq_true aw_c3 | exact decide_eq_true aw_c4 | exact decide_eq_true aw_b2 | exact decide_eq_true aw_t | exact decide_eq_true aw_d | exact decide_eq_true (congrArg Prod.fst aw_b1) | exact decide_eq_true (congrArg Prod.snd aw_b1)) ?_
  refine O.guard_t rfl rfl ?_
  refine O.ex (Ex.move rfl) rfl ?_
  refine O.guard_t rfl rfl ?_
  refine O.ex (Ex.eqlI rfl rfl) rfl ?_
  refine O.ex (Ex.pick_t rfl rfl) rfl ?_
  refine O.ex (Ex.move rfl) rfl ?_
  refine O.known (t := 65) (c := true) rfl (by first | rfl | decide | exact decide_eq_true aw_c1 | exact decide_eq_true aw_c2 | exact decide_eq_true aw_c3 | exact decide_eq_true aw_c4 | exact decide_eq_true aw_b2 | exact decide_eq_true aw_t | exact decide_eq_true aw_d | exact decide_eq_true (congrArg Prod.fst aw_b1) | exact decide_eq_true (congrArg Prod.snd aw_b1)) ?_
  refine O.guard_t rfl rfl ?_
  refine O.ex (Ex.move rfl) rfl ?_
  refine O.guard_t rfl rfl ?_
  refine O.ex (Ex.eqlI rfl rfl) rfl ?_
  refine O.ex (Ex.pick_t rfl rfl) rfl ?_
  refine O.ex (Ex.move rfl) rfl ?_
  refine O.known (t := 69) (c := true) rfl (by first | rfl | decide | exact decide_eq_true aw_c1 | exact decide_eq_true aw_c2 | exact decide_eq_true aw_c3 | exact decide_eq_true aw_c4 | exact decide_eq_true aw_b2 | exact decide_eq_true aw_t | exact decide_eq_true aw_d | exact decide_eq_true (congrArg Prod.fst aw_b1) | exact decide_eq_true (congrArg Prod.snd aw_b1)) ?_
  refine O.guard_t rfl rfl ?_
  refine O.ex (Ex.move rfl) rfl ?_
  refine O.guard_t rfl rfl ?_
  refine O.ex (Ex.eqlI rfl rfl) rfl ?_
  refine O.ex (Ex.pick_t rfl rfl) rfl ?_
  refine O.ex (Ex.move rfl) rfl ?_
  refine O.known (t := 73) (c := true) rfl (by first | rfl | decide | exact decide_eq_true aw_c1 | exact decide_eq_true aw_c2 | exact decide_eq_true aw_c3 | exact decide_eq_true aw_c4 | exact decide_eq_true aw_b2 | exact decide_eq_true aw_t | exact decide_eq_true aw_d | exact decide_eq_true (congrArg Prod.fst aw_b1) | exact decide_eq_true (congrArg Prod.snd aw_b1)) ?_
  refine O.guard_t rfl rfl ?_
  refine O.ex (Ex.move rfl) rfl ?_
  refine O.guard_t rfl rfl ?_
  refine O.ex (Ex.eqlI rfl rfl) rfl ?_
  refine O.ex (Ex.pick_t rfl rfl) rfl ?_
  refine O.ex (Ex.move rfl) rfl ?_
  refine O.known (t := 77) (c := true) rfl (by first | rfl | decide | exact decide_eq_true aw_c1 | exact decide_eq_true aw_c2 | exact decide_eq_true aw_c3 | exact decide_eq_true aw_c4 | exact decide_eq_true aw_b2 | exact decide_eq_true aw_t | exact decide_eq_true aw_d | exact decide_eq_true (congrArg Prod.fst aw_b1) | exact decide_eq_true (congrArg Prod.snd aw_b1)) ?_
  refine O.guard_t rfl rfl ?_
  refine O.ex (Ex.move rfl) rfl ?_
  refine O.guard_t rfl rfl ?_
  refine O.ex (Ex.eqlI rfl rfl) rfl ?_
  refine O.ex (Ex.pick_t rfl rfl) rfl ?_
  refine O.ex (Ex.move rfl) rfl ?_
  refine O.known (t := 81) (c := true) rfl (by first | rfl | decide | exact decide_eq_true aw_c1 | exact decide_eq_true aw_c2 | exact decide_eq_true aw_c3 | exact decide_eq_true aw_c4 | exact decide_eq_true aw_b2 | exact decide_eq_true aw_t | exact decide_eq_true aw_d | exact decide_eq_true (congrArg Prod.fst aw_b1) | exact decide_eq_true (congrArg Prod.snd aw_b1)) ?_
  refine O.guard_t rfl rfl ?_
  refine O.ex (Ex.move rfl) rfl ?_
  refine O.guard_t rfl rfl ?_
  refine O.callF Try.call34 rfl rfl (CT.mono (gClose_ct (Holds.to (by assumption))) ?_)
  rintro _ w ⟨rfl, H⟩
  have H : Holds w (Gh g 4 2 awS6 :: L) := Holds.to H
  refine O.guard_t rfl rfl ?_
  refine O.ex (Ex.eqlI rfl rfl) rfl ?_
  refine O.ex (Ex.pick_t rfl rfl) rfl ?_
  refine O.ex (Ex.move rfl) rfl ?_
  refine O.known (t := 86) (c := true) rfl (by first | rfl | decide | exact decide_eq_true aw_c1 | exact decide_eq_true aw_c2 | exact decide_eq_true aw_c3 | exact decide_eq_true aw_c4 | exact decide_eq_true aw_b2 | exact decide_eq_true aw_t | exact decide_eq_true aw_d | exact decide_eq_true (congrArg Prod.fst aw_b1) | exact decide_eq_true (congrArg Prod.snd aw_b1)) ?_
  refine O.guard_t rfl rfl ?_
  refine O.ex (Ex.move rfl) rfl ?_
  refine O.guard_t rfl rfl ?_
  refine O.callF Try.call31 rfl rfl (CT.mono (gdelete_ct g6 (Holds.to (by assumption))) ?_)
  rintro _ w ⟨rfl, H⟩
  have H : Holds w (Gh g 4 2 awS7 :: L) := Holds.to H
  refine O.guard_t rfl rfl ?_
  refine O.ex (Ex.eqlI rfl rfl) rfl ?_
  refine O.ex (Ex.pick_t rfl rfl) rfl ?_
  refine O.ex (Ex.move rfl) rfl ?_
  refine O.known (t := 91) (c := true) rfl (by first | rfl | decide | exact decide_eq_true aw_c1 | exact decide_eq_true aw_c2 | exact decide_eq_true aw_c3 | exact decide_eq_true aw_c4 | exact decide_eq_true aw_b2 | exact decide_eq_true aw_t | exact decide_eq_true aw_d | exact decide_eq_true (congrArg Prod.fst aw_b1) | exact decide_eq_true (congrArg Prod.snd aw_b1)) ?_
  refine O.guard_t rfl rfl ?_
  refine O.ex (Ex.move rfl) rfl ?_
  refine O.guard_t rfl rfl ?_
  refine O.callF Try.call37 rfl rfl (CT.mono (glen_ct (Holds.to (by assumption))) ?_)
  rintro _ w ⟨rfl, H⟩
  refine O.guard_t rfl rfl ?_
  refine O.ex (Ex.eqlI rfl rfl) rfl ?_
  refine O.ex (Ex.pick_t rfl rfl) rfl ?_
  refine O.ex (Ex.assign rfl) rfl ?_
  refine O.nil ?_
  refine hK12 _ _ _ ?_
  refine W.ret ?_
  try dsimp only [thenQ, blockQ, retQ]
  first | refine ⟨_, ⟨_, _, rfl, rfl, rfl⟩, ?_⟩ | (refine retD_mark ?_; intro w H; refine ⟨_, ⟨_, _, rfl, rfl, rfl⟩, ?_⟩) | (refine retD_mark2 ?_; intro w H; refine ⟨_, ⟨_, _, rfl, rfl, rfl⟩, ?_⟩)
  exact ⟨by simp only [oneOf]; exact congrArg Value.bool (decide_eq_true aw_n), Holds.to (by assumption)⟩
set_option maxHeartbeats 2000000 in
theorem goes08out_ct {w : World} {g : Nat} {n most v q : Int} {s : St} {lv : Value} {L : List HProp} (hg : GOk n most s) (hlv : lv.oneCell' = true) (q0 : 0 ≤ q) (q1 : q ≤ 255) (H : Holds w (Gh g n most s :: arr 3 (Value.int .i64) lv (outI s v) :: L)) :
    CT Try.prog 23 [.pointer (some ⟨g, 0, none⟩), .int .i64 v, .bool false, lv, .int .i64 q] w fun u w' => u = .bool true ∧ Holds w' (Gh g n most s :: arr 3 (Value.int .i64) lv (outI s v) :: L) := by
  obtain ⟨ab, cap, es, H⟩ := gh_open.1 H
  have hll : (outI s v).length ≤ 64 := lstP_len _
  refine CT.enter (N := 56) Try.func23 rfl rfl rfl rfl ?_
  refine W.seq (fun K0 hK0 => ?_)
  refine W.region ?_
  refine O.boxP rfl (fun b8 w H => ?_)
  rw [cells_one hlv] at H
  refine O.boxP rfl (fun b9 w H => ?_)
  refine O.allocP Try.zeroValue4 (fun b10 w H => ?_)
  refine O.nil ?_
  refine hK0 _ _ _ ?_
  refine W.seq (fun K1 hK1 => ?_)
  refine W.region ?_
  refine O.allocP Try.zeroValue3 (fun b11 w H => ?_)
  first | refine O.storeP Try.sizeOf3 rfl rfl (fun w H => ?_) | refine O.storeR Try.sizeOf3 rfl rfl (fun w H => ?_) | refine O.storeM Try.sizeOf3 rfl rfl (fun w H => ?_) | refine O.storeVc Try.sizeOf3 rfl rfl (fun w H => ?_) | refine O.storeQ Try.sizeOf3 rfl rfl (fun w H => ?_)
  refine O.nil ?_
  refine hK1 _ _ _ ?_
  refine W.seq (fun K2 hK2 => ?_)
  refine W.region ?_
  refine O.ex (Ex.move rfl) rfl ?_
  refine O.ex (Ex.move rfl) rfl ?_
  refine O.callF Try.call63 rfl rfl (CT.mono (gout_ct (Holds.to (by assumption))) ?_)
  rintro _ w ⟨x2, x3, rfl, H⟩
  refine O.ex (Ex.assign rfl) rfl ?_
  refine O.nil ?_
  refine hK2 _ _ _ ?_
  refine W.seq (fun K3 hK3 => ?_)
  refine W.seq (fun K4 hK4 => ?_)
  refine W.region ?_
  refine O.ex (Ex.move rfl) rfl ?_
  refine O.nil ?_
  refine hK4 _ _ _ ?_
  refine W.known_f rfl (by first | rfl | exact decide_eq_true hk | exact decide_eq_false k1 | exact decide_eq_false (fun hh => hh rfl)) ?_
  refine W.skip ?_
  refine hK3 _ _ _ ?_
  refine W.seq (fun K5 hK5 => ?_)
  refine W.seq (fun K6 hK6 => ?_)
  refine W.region ?_
  refine O.ex (Ex.move rfl) rfl ?_
  refine O.nil ?_
  refine hK6 _ _ _ ?_
  refine W.block ?_
  have H0 : Holds w (GO g ab cap es n most s :: capO x2 x3 g v :: ( pt b8 (.cells #[lv] 37 (0, 0)) :: pt b9 (.cells #[.int .i64 q] 3 (0, 0)) :: pt b10 (.cells #[.bool false] 4 (0, 0)) :: pt b11 (.cells #[.int .i64 ((0 : Nat) : Int)] 3 (0, 0)) :: arr 3 (Value.int .i64) lv (outI s v) :: L)) := Holds.to (by assumption)
  refine W.rangeFunc rfl Try.call103 H0 ?_
  rintro LR kk D w hLR H
  refine CT.mono (gout1_ct (κ := Nat) (σ := fun a => ((a : Nat) : Int) = min (((outI s v).length : Nat) : Int) (max q 1)) (SL := fun a => LR .done (some (.exit 0)) :: dblk D :: GO g ab cap es n most s :: pt b8 (.cells #[lv] 37 (0, 0)) :: pt b9 (.cells #[.int .i64 q] 3 (0, 0)) :: pt b10 (.cells #[.bool false] 4 (0, 0)) :: pt b11 (.cells #[.int .i64 ((a : Nat) : Int)] 3 (0, 0)) :: arr 3 (Value.int .i64) lv (outI s v) :: L) (φ := fun i => i = 0 ∨ ((i : Nat) : Int) < q) (J := fun i => LR .ready none :: dblk D :: pt b8 (.cells #[lv] 37 (0, 0)) :: pt b9 (.cells #[.int .i64 q] 3 (0, 0)) :: pt b10 (.cells #[.bool false] 4 (0, 0)) :: pt b11 (.cells #[.int .i64 ((i : Nat) : Int)] 3 (0, 0)) :: arr 3 (Value.int .i64) lv (outI s v) :: L) hg (.inl rfl) (Holds.to (by assumption)) ?_) ?_
  · intro Fr i w hi hφ H
    have k1 : ¬ (((outI s v).length : Nat) : Int) ≤ ((i : Nat) : Int) := by omega
    have hi0 : (0 : Int) ≤ ((i : Nat) : Int) := by omega
    have hi1 : ((i : Nat) : Int) < (((outI s v).length : Nat) : Int) := by omega
    refine VT.round hLR (Holds.to (by assumption)) rfl rfl ?_
    refine W.region ?_
    refine O.ex (Ex.assign rfl) rfl ?_
    refine O.nil ?_
    refine ⟨_, Holds.to (by assumption), fun w H => ?_⟩
    refine W.block ?_
    refine W.seq (fun K7 hK7 => ?_)
    refine W.seq (fun K8 hK8 => ?_)
    refine W.region ?_
    refine O.ex (by first | exact Ex.loadRT Try.isAgg3 rfl | exact Ex.loadRA Try.isAgg3 rfl | exact Ex.loadRN Try.isAgg3 rfl | exact Ex.loadRM Try.isAgg3 rfl | exact Ex.loadP Try.isAgg3 rfl | exact Ex.loadQ Try.isAgg3 rfl | exact Ex.loadMh Try.isAgg3 rfl | exact Ex.loadR Try.isAgg3 rfl | exact Ex.loadInF Try.isAgg3 rfl (Holds.to (by assumption)) | exact Ex.loadIn1 Try.isAgg3 rfl (Holds.to (by assumption)) | exact Ex.loadM Try.isAgg3 rfl | exact Ex.loadVc Try.isAgg3 rfl) rfl ?_
    refine O.ex (by first | exact Ex.loadRT Try.isAgg37 rfl | exact Ex.loadRA Try.isAgg37 rfl | exact Ex.loadRN Try.isAgg37 rfl | exact Ex.loadRM Try.isAgg37 rfl | exact Ex.loadP Try.isAgg37 rfl | exact Ex.loadQ Try.isAgg37 rfl | exact Ex.loadMh Try.isAgg37 rfl | exact Ex.loadR Try.isAgg37 rfl | exact Ex.loadInF Try.isAgg37 rfl (Holds.to (by assumption)) | exact Ex.loadIn1 Try.isAgg37 rfl (Holds.to (by assumption)) | exact Ex.loadM Try.isAgg37 rfl | exact Ex.loadVc Try.isAgg37 rfl) rfl ?_
    refine O.ex (by first | exact Ex.lenR Try.runUnderlying37 rfl | exact Ex.lenIn Try.runUnderlying37 rfl | exact Ex.lenL Try.runUnderlying37 rfl | exact Ex.len rfl Try.runUnderlying37 rfl) rfl ?_
    refine O.ex (Ex.geq rfl rfl) rfl ?_
    refine O.ex (Ex.move rfl) rfl ?_
    refine O.known (t := 27) (c := false) rfl (by first | rfl | exact decide_eq_true hk | exact decide_eq_false k1 | exact decide_eq_false (fun hh => hh rfl)) ?_
    refine O.guard_t rfl rfl ?_
    refine O.ex (by first | exact Ex.loadRT Try.isAgg37 rfl | exact Ex.loadRA Try.isAgg37 rfl | exact Ex.loadRN Try.isAgg37 rfl | exact Ex.loadRM Try.isAgg37 rfl | exact Ex.loadP Try.isAgg37 rfl | exact Ex.loadQ Try.isAgg37 rfl | exact Ex.loadMh Try.isAgg37 rfl | exact Ex.loadR Try.isAgg37 rfl | exact Ex.loadInF Try.isAgg37 rfl (Holds.to (by assumption)) | exact Ex.loadIn1 Try.isAgg37 rfl (Holds.to (by assumption)) | exact Ex.loadM Try.isAgg37 rfl | exact Ex.loadVc Try.isAgg37 rfl) rfl ?_
    refine O.guard_t rfl rfl ?_
    refine O.ex (by first | exact Ex.loadRT Try.isAgg3 rfl | exact Ex.loadRA Try.isAgg3 rfl | exact Ex.loadRN Try.isAgg3 rfl | exact Ex.loadRM Try.isAgg3 rfl | exact Ex.loadP Try.isAgg3 rfl | exact Ex.loadQ Try.isAgg3 rfl | exact Ex.loadMh Try.isAgg3 rfl | exact Ex.loadR Try.isAgg3 rfl | exact Ex.loadInF Try.isAgg3 rfl (Holds.to (by assumption)) | exact Ex.loadIn1 Try.isAgg3 rfl (Holds.to (by assumption)) | exact Ex.loadM Try.isAgg3 rfl | exact Ex.loadVc Try.isAgg3 rfl) rfl ?_
    refine O.guard_t rfl rfl ?_
    refine O.ex (by first | exact Ex.idxR Try.runUnderlying37 Try.sizeOf3 rfl rfl | exact Ex.idxIn Try.runUnderlying37 Try.sizeOf3 rfl rfl | exact Ex.idxS Try.runUnderlying37 Try.sizeOf3 rfl rfl | exact Ex.idx Try.runUnderlying37 Try.sizeOf3 rfl rfl (by omega) (by omega)) rfl ?_
    refine O.guard_t rfl rfl ?_
    refine O.ex (by first | exact Ex.loadRT Try.isAgg3 rfl | exact Ex.loadRA Try.isAgg3 rfl | exact Ex.loadRN Try.isAgg3 rfl | exact Ex.loadRM Try.isAgg3 rfl | exact Ex.loadR Try.isAgg3 rfl | exact Ex.loadIn1 Try.isAgg3 rfl (Holds.to (by assumption)) | exact Ex.loadInF Try.isAgg3 rfl (Holds.to (by assumption)) | exact Ex.loadP Try.isAgg3 rfl | exact Ex.loadMh Try.isAgg3 rfl | exact Ex.loadM Try.isAgg3 rfl | exact Ex.loadVc Try.isAgg3 rfl | exact Ex.loadQ Try.isAgg3 rfl) rfl ?_
    refine O.guard_t rfl rfl ?_
    refine O.ex (Ex.move rfl) rfl ?_
    refine O.guard_t rfl rfl ?_
    refine O.ex (Ex.neqI rfl rfl) rfl ?_
    refine O.ex (Ex.pick_f rfl rfl) rfl ?_
    refine O.nil ?_
    refine hK8 _ _ _ ?_
    refine W.known_f rfl (by first | rfl | exact decide_eq_true hk | exact decide_eq_false k1 | exact decide_eq_false (fun hh => hh rfl)) ?_
    refine W.skip ?_
    refine hK7 _ _ _ ?_
    refine W.seq (fun K9 hK9 => ?_)
    refine W.region ?_
    refine O.ex (by first | exact Ex.loadRT Try.isAgg3 rfl | exact Ex.loadRA Try.isAgg3 rfl | exact Ex.loadRN Try.isAgg3 rfl | exact Ex.loadRM Try.isAgg3 rfl | exact Ex.loadP Try.isAgg3 rfl | exact Ex.loadQ Try.isAgg3 rfl | exact Ex.loadMh Try.isAgg3 rfl | exact Ex.loadR Try.isAgg3 rfl | exact Ex.loadInF Try.isAgg3 rfl (Holds.to (by assumption)) | exact Ex.loadIn1 Try.isAgg3 rfl (Holds.to (by assumption)) | exact Ex.loadM Try.isAgg3 rfl | exact Ex.loadVc Try.isAgg3 rfl) rfl ?_
    refine O.ex (by first | exact Ex.addI rfl rfl | exact Ex.add rfl rfl rfl) rfl ?_
    first | refine O.storeP Try.sizeOf3 rfl rfl (fun w H => ?_) | refine O.storeR Try.sizeOf3 rfl rfl (fun w H => ?_) | refine O.storeM Try.sizeOf3 rfl rfl (fun w H => ?_) | refine O.storeVc Try.sizeOf3 rfl rfl (fun w H => ?_) | refine O.storeQ Try.sizeOf3 rfl rfl (fun w H => ?_)
    refine O.nil ?_
    refine hK9 _ _ _ ?_
    refine W.seq (fun K10 hK10 => ?_)
    refine W.region ?_
    refine O.ex (by first | exact Ex.loadRT Try.isAgg3 rfl | exact Ex.loadRA Try.isAgg3 rfl | exact Ex.loadRN Try.isAgg3 rfl | exact Ex.loadRM Try.isAgg3 rfl | exact Ex.loadP Try.isAgg3 rfl | exact Ex.loadQ Try.isAgg3 rfl | exact Ex.loadMh Try.isAgg3 rfl | exact Ex.loadR Try.isAgg3 rfl | exact Ex.loadInF Try.isAgg3 rfl (Holds.to (by assumption)) | exact Ex.loadIn1 Try.isAgg3 rfl (Holds.to (by assumption)) | exact Ex.loadM Try.isAgg3 rfl | exact Ex.loadVc Try.isAgg3 rfl) rfl ?_
    refine O.ex (by first | exact Ex.loadRT Try.isAgg3 rfl | exact Ex.loadRA Try.isAgg3 rfl | exact Ex.loadRN Try.isAgg3 rfl | exact Ex.loadRM Try.isAgg3 rfl | exact Ex.loadP Try.isAgg3 rfl | exact Ex.loadQ Try.isAgg3 rfl | exact Ex.loadMh Try.isAgg3 rfl | exact Ex.loadR Try.isAgg3 rfl | exact Ex.loadInF Try.isAgg3 rfl (Holds.to (by assumption)) | exact Ex.loadIn1 Try.isAgg3 rfl (Holds.to (by assumption)) | exact Ex.loadM Try.isAgg3 rfl | exact Ex.loadVc Try.isAgg3 rfl) rfl ?_
    refine O.ex (Ex.geq rfl rfl) rfl ?_
    refine O.nil ?_
    refine hK10 _ _ _ ?_
    first | refine W.cond_p rfl (fun hstop => ?_) (fun hgo => ?_) | refine W.cond_b rfl (fun hstop => ?_) (fun hgo => ?_)
    · refine W.exit ?_
      exact ⟨_, Holds.to (by assumption), fun w H => .inr ⟨rfl, i + 1, by omega, Holds.to (by assumption)⟩⟩
    · refine W.skip ?_
      exact ⟨_, Holds.to (by assumption), fun w H => .inl ⟨rfl, .inr (by omega), Holds.to (by assumption)⟩⟩
  rintro _ w (⟨hφ, H⟩ | ⟨kf, hkf, H⟩)
  all_goals refine rangeEnd (Holds.to (by assumption)) (by nofun) (fun w H => ?_)
  all_goals try dsimp only [behind]
  · have hk : (((outI s v).length : Nat) : Int) = min (((outI s v).length : Nat) : Int) (max q 1) := by omega
    refine hK5 _ _ _ ?_
    refine W.seq (fun K11 hK11 => ?_)
    refine W.region ?_
    refine O.ex (by first | exact Ex.loadRT Try.isAgg3 rfl | exact Ex.loadRA Try.isAgg3 rfl | exact Ex.loadRN Try.isAgg3 rfl | exact Ex.loadRM Try.isAgg3 rfl | exact Ex.loadP Try.isAgg3 rfl | exact Ex.loadQ Try.isAgg3 rfl | exact Ex.loadMh Try.isAgg3 rfl | exact Ex.loadR Try.isAgg3 rfl | exact Ex.loadInF Try.isAgg3 rfl (Holds.to (by assumption)) | exact Ex.loadIn1 Try.isAgg3 rfl (Holds.to (by assumption)) | exact Ex.loadM Try.isAgg3 rfl | exact Ex.loadVc Try.isAgg3 rfl) rfl ?_
    refine O.ex (by first | exact Ex.loadRT Try.isAgg37 rfl | exact Ex.loadRA Try.isAgg37 rfl | exact Ex.loadRN Try.isAgg37 rfl | exact Ex.loadRM Try.isAgg37 rfl | exact Ex.loadP Try.isAgg37 rfl | exact Ex.loadQ Try.isAgg37 rfl | exact Ex.loadMh Try.isAgg37 rfl | exact Ex.loadR Try.isAgg37 rfl | exact Ex.loadInF Try.isAgg37 rfl (Holds.to (by assumption)) | exact Ex.loadIn1 Try.isAgg37 rfl (Holds.to (by assumption)) | exact Ex.loadM Try.isAgg37 rfl | exact Ex.loadVc Try.isAgg37 rfl) rfl ?_
    refine O.ex (by first | exact Ex.lenR Try.runUnderlying37 rfl | exact Ex.lenIn Try.runUnderlying37 rfl | exact Ex.lenL Try.runUnderlying37 rfl | exact Ex.len rfl Try.runUnderlying37 rfl) rfl ?_
    refine O.ex (by first | exact Ex.loadRT Try.isAgg3 rfl | exact Ex.loadRA Try.isAgg3 rfl | exact Ex.loadRN Try.isAgg3 rfl | exact Ex.loadRM Try.isAgg3 rfl | exact Ex.loadP Try.isAgg3 rfl | exact Ex.loadQ Try.isAgg3 rfl | exact Ex.loadMh Try.isAgg3 rfl | exact Ex.loadR Try.isAgg3 rfl | exact Ex.loadInF Try.isAgg3 rfl (Holds.to (by assumption)) | exact Ex.loadIn1 Try.isAgg3 rfl (Holds.to (by assumption)) | exact Ex.loadM Try.isAgg3 rfl | exact Ex.loadVc Try.isAgg3 rfl) rfl ?_
    refine O.ex (Ex.maxI rfl rfl) rfl ?_
    refine O.ex (Ex.minI rfl rfl) rfl ?_
    refine O.ex (Ex.eqlI rfl rfl) rfl ?_
    refine O.ex (Ex.move rfl) rfl ?_
    refine O.known (t := 47) (c := true) rfl (by first | rfl | exact decide_eq_true hk | exact decide_eq_false k1 | exact decide_eq_false (fun hh => hh rfl)) ?_
    refine O.guard_f rfl rfl rfl rfl ?_
    refine O.guard_f rfl rfl rfl rfl ?_
    refine O.guard_f rfl rfl rfl rfl ?_
    refine O.guard_f rfl rfl rfl rfl ?_
    refine O.guard_u rfl rfl rfl ?_
    refine O.guard_u rfl rfl rfl ?_
    refine O.guard_f rfl rfl rfl rfl ?_
    refine O.ex (Ex.pick_t rfl rfl) rfl ?_
    first | refine O.storeP Try.sizeOf4 rfl rfl (fun w H => ?_) | refine O.storeR Try.sizeOf4 rfl rfl (fun w H => ?_) | refine O.storeM Try.sizeOf4 rfl rfl (fun w H => ?_) | refine O.storeVc Try.sizeOf4 rfl rfl (fun w H => ?_) | refine O.storeQ Try.sizeOf4 rfl rfl (fun w H => ?_)
    refine O.nil ?_
    refine hK11 _ _ _ ?_
    refine W.ret ?_
    try dsimp only [thenQ, blockQ, retQ]
    first | refine ⟨_, ⟨_, _, _, rfl, rfl, loadVar_one Try.isAgg4, rfl⟩, ?_⟩ | (refine retD_mark ?_; intro w H; refine ⟨_, ⟨_, _, _, rfl, rfl, loadVar_one Try.isAgg4, rfl⟩, ?_⟩) | (refine retD_mark2 ?_; intro w H; refine ⟨_, ⟨_, _, _, rfl, rfl, loadVar_one Try.isAgg4, rfl⟩, ?_⟩)
    first
    | exact ⟨rfl, Holds.swap (gh_open.2 ⟨ab, cap, es, Holds.to (by assumption)⟩)⟩
    | exact ⟨rfl, (gh_open.2 ⟨ab, cap, es, Holds.to (by assumption)⟩)⟩
  · have hk := hkf
    refine W.exit ?_
    refine hK5 _ _ _ ?_
    refine W.seq (fun K12 hK12 => ?_)
    refine W.region ?_
    refine O.ex (by first | exact Ex.loadRT Try.isAgg3 rfl | exact Ex.loadRA Try.isAgg3 rfl | exact Ex.loadRN Try.isAgg3 rfl | exact Ex.loadRM Try.isAgg3 rfl | exact Ex.loadP Try.isAgg3 rfl | exact Ex.loadQ Try.isAgg3 rfl | exact Ex.loadMh Try.isAgg3 rfl | exact Ex.loadR Try.isAgg3 rfl | exact Ex.loadInF Try.isAgg3 rfl (Holds.to (by assumption)) | exact Ex.loadIn1 Try.isAgg3 rfl (Holds.to (by assumption)) | exact Ex.loadM Try.isAgg3 rfl | exact Ex.loadVc Try.isAgg3 rfl) rfl ?_
    refine O.ex (by first | exact Ex.loadRT Try.isAgg37 rfl | exact Ex.loadRA Try.isAgg37 rfl | exact Ex.loadRN Try.isAgg37 rfl | exact Ex.loadRM Try.isAgg37 rfl | exact Ex.loadP Try.isAgg37 rfl | exact Ex.loadQ Try.isAgg37 rfl | exact Ex.loadMh Try.isAgg37 rfl | exact Ex.loadR Try.isAgg37 rfl | exact Ex.loadInF Try.isAgg37 rfl (Holds.to (by assumption)) | exact Ex.loadIn1 Try.isAgg37 rfl (Holds.to (by assumption)) | exact Ex.loadM Try.isAgg37 rfl | exact Ex.loadVc Try.isAgg37 rfl) rfl ?_
    refine O.ex (by first | exact Ex.lenR Try.runUnderlying37 rfl | exact Ex.lenIn Try.runUnderlying37 rfl | exact Ex.lenL Try.runUnderlying37 rfl | exact Ex.len rfl Try.runUnderlying37 rfl) rfl ?_
    refine O.ex (by first | exact Ex.loadRT Try.isAgg3 rfl | exact Ex.loadRA Try.isAgg3 rfl | exact Ex.loadRN Try.isAgg3 rfl | exact Ex.loadRM Try.isAgg3 rfl | exact Ex.loadP Try.isAgg3 rfl | exact Ex.loadQ Try.isAgg3 rfl | exact Ex.loadMh Try.isAgg3 rfl | exact Ex.loadR Try.isAgg3 rfl | exact Ex.loadInF Try.isAgg3 rfl (Holds.to (by assumption)) | exact Ex.loadIn1 Try.isAgg3 rfl (Holds.to (by assumption)) | exact Ex.loadM Try.isAgg3 rfl | exact Ex.loadVc Try.isAgg3 rfl) rfl ?_
    refine O.ex (Ex.maxI rfl rfl) rfl ?_
    refine O.ex (Ex.minI rfl rfl) rfl ?_
    refine O.ex (Ex.eqlI rfl rfl) rfl ?_
    refine O.ex (Ex.move rfl) rfl ?_
    refine O.known (t := 47) (c := true) rfl (by first | rfl | exact decide_eq_true hk | exact decide_eq_false k1 | exact decide_eq_false (fun hh => hh rfl)) ?_
    refine O.guard_f rfl rfl rfl rfl ?_
    refine O.guard_f rfl rfl rfl rfl ?_
    refine O.guard_f rfl rfl rfl rfl ?_
    refine O.guard_f rfl rfl rfl rfl ?_
    refine O.guard_u rfl rfl rfl ?_
    refine O.guard_u rfl rfl rfl ?_
    refine O.guard_f rfl rfl rfl rfl ?_
    refine O.ex (Ex.pick_t rfl rfl) rfl ?_
    first | refine O.storeP Try.sizeOf4 rfl rfl (fun w H => ?_) | refine O.storeR Try.sizeOf4 rfl rfl (fun w H => ?_) | refine O.storeM Try.sizeOf4 rfl rfl (fun w H => ?_) | refine O.storeVc Try.sizeOf4 rfl rfl (fun w H => ?_) | refine O.storeQ Try.sizeOf4 rfl rfl (fun w H => ?_)
    refine O.nil ?_
    refine hK12 _ _ _ ?_
    refine W.ret ?_
    try dsimp only [thenQ, blockQ, retQ]
    first | refine ⟨_, ⟨_, _, _, rfl, rfl, loadVar_one Try.isAgg4, rfl⟩, ?_⟩ | (refine retD_mark ?_; intro w H; refine ⟨_, ⟨_, _, _, rfl, rfl, loadVar_one Try.isAgg4, rfl⟩, ?_⟩) | (refine retD_mark2 ?_; intro w H; refine ⟨_, ⟨_, _, _, rfl, rfl, loadVar_one Try.isAgg4, rfl⟩, ?_⟩)
    first
    | exact ⟨rfl, Holds.swap (gh_open.2 ⟨ab, cap, es, Holds.to (by assumption)⟩)⟩
    | exact ⟨rfl, (gh_open.2 ⟨ab, cap, es, Holds.to (by assumption)⟩)⟩
set_option maxHeartbeats 2000000 in
theorem goes08in_ct {w : World} {g : Nat} {n most v q : Int} {s : St} {lv : Value} {L : List HProp} (hg : GOk n most s) (hlv : lv.oneCell' = true) (q0 : 0 ≤ q) (q1 : q ≤ 255) (H : Holds w (Gh g n most s :: arr 3 (Value.int .i64) lv (inI s v) :: L)) :
    CT Try.prog 23 [.pointer (some ⟨g, 0, none⟩), .int .i64 v, .bool true, lv, .int .i64 q] w fun u w' => u = .bool true ∧ Holds w' (Gh g n most s :: arr 3 (Value.int .i64) lv (inI s v) :: L) := by
  obtain ⟨ab, cap, es, H⟩ := gh_open.1 H
  have hll : (inI s v).length ≤ 64 := lstP_len _
  refine CT.enter (N := 56) Try.func23 rfl rfl rfl rfl ?_
  refine W.seq (fun K0 hK0 => ?_)
  refine W.region ?_
  refine O.boxP rfl (fun b8 w H => ?_)
  rw [cells_one hlv] at H
  refine O.boxP rfl (fun b9 w H => ?_)
  refine O.allocP Try.zeroValue4 (fun b10 w H => ?_)
  refine O.nil ?_
  refine hK0 _ _ _ ?_
  refine W.seq (fun K1 hK1 => ?_)
  refine W.region ?_
  refine O.allocP Try.zeroValue3 (fun b11 w H => ?_)
  first | refine O.storeP Try.sizeOf3 rfl rfl (fun w H => ?_) | refine O.storeR Try.sizeOf3 rfl rfl (fun w H => ?_) | refine O.storeM Try.sizeOf3 rfl rfl (fun w H => ?_) | refine O.storeVc Try.sizeOf3 rfl rfl (fun w H => ?_) | refine O.storeQ Try.sizeOf3 rfl rfl (fun w H => ?_)
  refine O.nil ?_
  refine hK1 _ _ _ ?_
  refine W.seq (fun K2 hK2 => ?_)
  refine W.region ?_
  refine O.ex (Ex.move rfl) rfl ?_
  refine O.ex (Ex.move rfl) rfl ?_
  refine O.callF Try.call63 rfl rfl (CT.mono (gout_ct (Holds.to (by assumption))) ?_)
  rintro _ w ⟨x2, x3, rfl, H⟩
  refine O.ex (Ex.assign rfl) rfl ?_
  refine O.nil ?_
  refine hK2 _ _ _ ?_
  refine W.seq (fun K3 hK3 => ?_)
  refine W.seq (fun K4 hK4 => ?_)
  refine W.region ?_
  refine O.ex (Ex.move rfl) rfl ?_
  refine O.nil ?_
  refine hK4 _ _ _ ?_
  refine W.known_t rfl (by first | rfl | exact decide_eq_true hk | exact decide_eq_false k1 | exact decide_eq_false (fun hh => hh rfl)) ?_
  refine W.region ?_
  refine O.ex (Ex.move rfl) rfl ?_
  refine O.ex (Ex.move rfl) rfl ?_
  refine O.callF Try.call66 rfl rfl (CT.mono (gin_ct (Holds.to (by assumption))) ?_)
  rintro _ w ⟨c2, c3, rfl, H⟩
  refine O.ex (Ex.assign rfl) rfl ?_
  refine O.nil ?_
  refine hK3 _ _ _ ?_
  refine W.seq (fun K5 hK5 => ?_)
  refine W.seq (fun K6 hK6 => ?_)
  refine W.region ?_
  refine O.ex (Ex.move rfl) rfl ?_
  refine O.nil ?_
  refine hK6 _ _ _ ?_
  refine W.block ?_
  have H0 : Holds w (GO g ab cap es n most s :: capO c2 c3 g v :: (capO x2 x3 g v :: pt b8 (.cells #[lv] 37 (0, 0)) :: pt b9 (.cells #[.int .i64 q] 3 (0, 0)) :: pt b10 (.cells #[.bool false] 4 (0, 0)) :: pt b11 (.cells #[.int .i64 ((0 : Nat) : Int)] 3 (0, 0)) :: arr 3 (Value.int .i64) lv (inI s v) :: L)) := Holds.to (by assumption)
  refine W.rangeFunc rfl Try.call105 H0 ?_
  rintro LR kk D w hLR H
  refine CT.mono (gin1_ct (κ := Nat) (σ := fun a => ((a : Nat) : Int) = min (((inI s v).length : Nat) : Int) (max q 1)) (SL := fun a => LR .done (some (.exit 0)) :: dblk D :: GO g ab cap es n most s :: pt b8 (.cells #[lv] 37 (0, 0)) :: pt b9 (.cells #[.int .i64 q] 3 (0, 0)) :: pt b10 (.cells #[.bool false] 4 (0, 0)) :: pt b11 (.cells #[.int .i64 ((a : Nat) : Int)] 3 (0, 0)) :: arr 3 (Value.int .i64) lv (inI s v) :: L) (φ := fun i => i = 0 ∨ ((i : Nat) : Int) < q) (J := fun i => LR .ready none :: dblk D :: pt b8 (.cells #[lv] 37 (0, 0)) :: pt b9 (.cells #[.int .i64 q] 3 (0, 0)) :: pt b10 (.cells #[.bool false] 4 (0, 0)) :: pt b11 (.cells #[.int .i64 ((i : Nat) : Int)] 3 (0, 0)) :: arr 3 (Value.int .i64) lv (inI s v) :: L) hg (.inl rfl) (Holds.to (by assumption)) ?_) ?_
  · intro Fr i w hi hφ H
    have k1 : ¬ (((inI s v).length : Nat) : Int) ≤ ((i : Nat) : Int) := by omega
    have hi0 : (0 : Int) ≤ ((i : Nat) : Int) := by omega
    have hi1 : ((i : Nat) : Int) < (((inI s v).length : Nat) : Int) := by omega
    refine VT.round hLR (Holds.to (by assumption)) rfl rfl ?_
    refine W.region ?_
    refine O.ex (Ex.assign rfl) rfl ?_
    refine O.nil ?_
    refine ⟨_, Holds.to (by assumption), fun w H => ?_⟩
    refine W.block ?_
    refine W.seq (fun K7 hK7 => ?_)
    refine W.seq (fun K8 hK8 => ?_)
    refine W.region ?_
    refine O.ex (by first | exact Ex.loadRT Try.isAgg3 rfl | exact Ex.loadRA Try.isAgg3 rfl | exact Ex.loadRN Try.isAgg3 rfl | exact Ex.loadRM Try.isAgg3 rfl | exact Ex.loadP Try.isAgg3 rfl | exact Ex.loadQ Try.isAgg3 rfl | exact Ex.loadMh Try.isAgg3 rfl | exact Ex.loadR Try.isAgg3 rfl | exact Ex.loadInF Try.isAgg3 rfl (Holds.to (by assumption)) | exact Ex.loadIn1 Try.isAgg3 rfl (Holds.to (by assumption)) | exact Ex.loadM Try.isAgg3 rfl | exact Ex.loadVc Try.isAgg3 rfl) rfl ?_
    refine O.ex (by first | exact Ex.loadRT Try.isAgg37 rfl | exact Ex.loadRA Try.isAgg37 rfl | exact Ex.loadRN Try.isAgg37 rfl | exact Ex.loadRM Try.isAgg37 rfl | exact Ex.loadP Try.isAgg37 rfl | exact Ex.loadQ Try.isAgg37 rfl | exact Ex.loadMh Try.isAgg37 rfl | exact Ex.loadR Try.isAgg37 rfl | exact Ex.loadInF Try.isAgg37 rfl (Holds.to (by assumption)) | exact Ex.loadIn1 Try.isAgg37 rfl (Holds.to (by assumption)) | exact Ex.loadM Try.isAgg37 rfl | exact Ex.loadVc Try.isAgg37 rfl) rfl ?_
    refine O.ex (by first | exact Ex.lenR Try.runUnderlying37 rfl | exact Ex.lenIn Try.runUnderlying37 rfl | exact Ex.lenL Try.runUnderlying37 rfl | exact Ex.len rfl Try.runUnderlying37 rfl) rfl ?_
    refine O.ex (Ex.geq rfl rfl) rfl ?_
    refine O.ex (Ex.move rfl) rfl ?_
    refine O.known (t := 27) (c := false) rfl (by first | rfl | exact decide_eq_true hk | exact decide_eq_false k1 | exact decide_eq_false (fun hh => hh rfl)) ?_
    refine O.guard_t rfl rfl ?_
    refine O.ex (by first | exact Ex.loadRT Try.isAgg37 rfl | exact Ex.loadRA Try.isAgg37 rfl | exact Ex.loadRN Try.isAgg37 rfl | exact Ex.loadRM Try.isAgg37 rfl | exact Ex.loadP Try.isAgg37 rfl | exact Ex.loadQ Try.isAgg37 rfl | exact Ex.loadMh Try.isAgg37 rfl | exact Ex.loadR Try.isAgg37 rfl | exact Ex.loadInF Try.isAgg37 rfl (Holds.to (by assumption)) | exact Ex.loadIn1 Try.isAgg37 rfl (Holds.to (by assumption)) | exact Ex.loadM Try.isAgg37 rfl | exact Ex.loadVc Try.isAgg37 rfl) rfl ?_
    refine O.guard_t rfl rfl ?_
    refine O.ex (by first | exact Ex.loadRT Try.isAgg3 rfl | exact Ex.loadRA Try.isAgg3 rfl | exact Ex.loadRN Try.isAgg3 rfl | exact Ex.loadRM Try.isAgg3 rfl | exact Ex.loadP Try.isAgg3 rfl | exact Ex.loadQ Try.isAgg3 rfl | exact Ex.loadMh Try.isAgg3 rfl | exact Ex.loadR Try.isAgg3 rfl | exact Ex.loadInF Try.isAgg3 rfl (Holds.to (by assumption)) | exact Ex.loadIn1 Try.isAgg3 rfl (Holds.to (by assumption)) | exact Ex.loadM Try.isAgg3 rfl | exact Ex.loadVc Try.isAgg3 rfl) rfl ?_
    refine O.guard_t rfl rfl ?_
    refine O.ex (by first | exact Ex.idxR Try.runUnderlying37 Try.sizeOf3 rfl rfl | exact Ex.idxIn Try.runUnderlying37 Try.sizeOf3 rfl rfl | exact Ex.idxS Try.runUnderlying37 Try.sizeOf3 rfl rfl | exact Ex.idx Try.runUnderlying37 Try.sizeOf3 rfl rfl (by omega) (by omega)) rfl ?_
    refine O.guard_t rfl rfl ?_
    refine O.ex (by first | exact Ex.loadRT Try.isAgg3 rfl | exact Ex.loadRA Try.isAgg3 rfl | exact Ex.loadRN Try.isAgg3 rfl | exact Ex.loadRM Try.isAgg3 rfl | exact Ex.loadR Try.isAgg3 rfl | exact Ex.loadIn1 Try.isAgg3 rfl (Holds.to (by assumption)) | exact Ex.loadInF Try.isAgg3 rfl (Holds.to (by assumption)) | exact Ex.loadP Try.isAgg3 rfl | exact Ex.loadMh Try.isAgg3 rfl | exact Ex.loadM Try.isAgg3 rfl | exact Ex.loadVc Try.isAgg3 rfl | exact Ex.loadQ Try.isAgg3 rfl) rfl ?_
    refine O.guard_t rfl rfl ?_
    refine O.ex (Ex.move rfl) rfl ?_
    refine O.guard_t rfl rfl ?_
    refine O.ex (Ex.neqI rfl rfl) rfl ?_
    refine O.ex (Ex.pick_f rfl rfl) rfl ?_
    refine O.nil ?_
    refine hK8 _ _ _ ?_
    refine W.known_f rfl (by first | rfl | exact decide_eq_true hk | exact decide_eq_false k1 | exact decide_eq_false (fun hh => hh rfl)) ?_
    refine W.skip ?_
    refine hK7 _ _ _ ?_
    refine W.seq (fun K9 hK9 => ?_)
    refine W.region ?_
    refine O.ex (by first | exact Ex.loadRT Try.isAgg3 rfl | exact Ex.loadRA Try.isAgg3 rfl | exact Ex.loadRN Try.isAgg3 rfl | exact Ex.loadRM Try.isAgg3 rfl | exact Ex.loadP Try.isAgg3 rfl | exact Ex.loadQ Try.isAgg3 rfl | exact Ex.loadMh Try.isAgg3 rfl | exact Ex.loadR Try.isAgg3 rfl | exact Ex.loadInF Try.isAgg3 rfl (Holds.to (by assumption)) | exact Ex.loadIn1 Try.isAgg3 rfl (Holds.to (by assumption)) | exact Ex.loadM Try.isAgg3 rfl | exact Ex.loadVc Try.isAgg3 rfl) rfl ?_
    refine O.ex (by first | exact Ex.addI rfl rfl | exact Ex.add rfl rfl rfl) rfl ?_
    first | refine O.storeP Try.sizeOf3 rfl rfl (fun w H => ?_) | refine O.storeR Try.sizeOf3 rfl rfl (fun w H => ?_) | refine O.storeM Try.sizeOf3 rfl rfl (fun w H => ?_) | refine O.storeVc Try.sizeOf3 rfl rfl (fun w H => ?_) | refine O.storeQ Try.sizeOf3 rfl rfl (fun w H => ?_)
    refine O.nil ?_
    refine hK9 _ _ _ ?_
    refine W.seq (fun K10 hK10 => ?_)
    refine W.region ?_
    refine O.ex (by first | exact Ex.loadRT Try.isAgg3 rfl | exact Ex.loadRA Try.isAgg3 rfl | exact Ex.loadRN Try.isAgg3 rfl | exact Ex.loadRM Try.isAgg3 rfl | exact Ex.loadP Try.isAgg3 rfl | exact Ex.loadQ Try.isAgg3 rfl | exact Ex.loadMh Try.isAgg3 rfl | exact Ex.loadR Try.isAgg3 rfl | exact Ex.loadInF Try.isAgg3 rfl (Holds.to (by assumption)) | exact Ex.loadIn1 Try.isAgg3 rfl (Holds.to (by assumption)) | exact Ex.loadM Try.isAgg3 rfl | exact Ex.loadVc Try.isAgg3 rfl) rfl ?_
    refine O.ex (by first | exact Ex.loadRT Try.isAgg3 rfl | exact Ex.loadRA Try.isAgg3 rfl | exact Ex.loadRN Try.isAgg3 rfl | exact Ex.loadRM Try.isAgg3 rfl | exact Ex.loadP Try.isAgg3 rfl | exact Ex.loadQ Try.isAgg3 rfl | exact Ex.loadMh Try.isAgg3 rfl | exact Ex.loadR Try.isAgg3 rfl | exact Ex.loadInF Try.isAgg3 rfl (Holds.to (by assumption)) | exact Ex.loadIn1 Try.isAgg3 rfl (Holds.to (by assumption)) | exact Ex.loadM Try.isAgg3 rfl | exact Ex.loadVc Try.isAgg3 rfl) rfl ?_
    refine O.ex (Ex.geq rfl rfl) rfl ?_
    refine O.nil ?_
    refine hK10 _ _ _ ?_
    first | refine W.cond_p rfl (fun hstop => ?_) (fun hgo => ?_) | refine W.cond_b rfl (fun hstop => ?_) (fun hgo => ?_)
    · refine W.exit ?_
      exact ⟨_, Holds.to (by assumption), fun w H => .inr ⟨rfl, i + 1, by omega, Holds.to (by assumption)⟩⟩
    · refine W.skip ?_
      exact ⟨_, Holds.to (by assumption), fun w H => .inl ⟨rfl, .inr (by omega), Holds.to (by assumption)⟩⟩
  rintro _ w (⟨hφ, H⟩ | ⟨kf, hkf, H⟩)
  all_goals refine rangeEnd (Holds.to (by assumption)) (by nofun) (fun w H => ?_)
  all_goals try dsimp only [behind]
  · have hk : (((inI s v).length : Nat) : Int) = min (((inI s v).length : Nat) : Int) (max q 1) := by omega
    refine hK5 _ _ _ ?_
    refine W.seq (fun K11 hK11 => ?_)
    refine W.region ?_
    refine O.ex (by first | exact Ex.loadRT Try.isAgg3 rfl | exact Ex.loadRA Try.isAgg3 rfl | exact Ex.loadRN Try.isAgg3 rfl | exact Ex.loadRM Try.isAgg3 rfl | exact Ex.loadP Try.isAgg3 rfl | exact Ex.loadQ Try.isAgg3 rfl | exact Ex.loadMh Try.isAgg3 rfl | exact Ex.loadR Try.isAgg3 rfl | exact Ex.loadInF Try.isAgg3 rfl (Holds.to (by assumption)) | exact Ex.loadIn1 Try.isAgg3 rfl (Holds.to (by assumption)) | exact Ex.loadM Try.isAgg3 rfl | exact Ex.loadVc Try.isAgg3 rfl) rfl ?_
    refine O.ex (by first | exact Ex.loadRT Try.isAgg37 rfl | exact Ex.loadRA Try.isAgg37 rfl | exact Ex.loadRN Try.isAgg37 rfl | exact Ex.loadRM Try.isAgg37 rfl | exact Ex.loadP Try.isAgg37 rfl | exact Ex.loadQ Try.isAgg37 rfl | exact Ex.loadMh Try.isAgg37 rfl | exact Ex.loadR Try.isAgg37 rfl | exact Ex.loadInF Try.isAgg37 rfl (Holds.to (by assumption)) | exact Ex.loadIn1 Try.isAgg37 rfl (Holds.to (by assumption)) | exact Ex.loadM Try.isAgg37 rfl | exact Ex.loadVc Try.isAgg37 rfl) rfl ?_
    refine O.ex (by first | exact Ex.lenR Try.runUnderlying37 rfl | exact Ex.lenIn Try.runUnderlying37 rfl | exact Ex.lenL Try.runUnderlying37 rfl | exact Ex.len rfl Try.runUnderlying37 rfl) rfl ?_
    refine O.ex (by first | exact Ex.loadRT Try.isAgg3 rfl | exact Ex.loadRA Try.isAgg3 rfl | exact Ex.loadRN Try.isAgg3 rfl | exact Ex.loadRM Try.isAgg3 rfl | exact Ex.loadP Try.isAgg3 rfl | exact Ex.loadQ Try.isAgg3 rfl | exact Ex.loadMh Try.isAgg3 rfl | exact Ex.loadR Try.isAgg3 rfl | exact Ex.loadInF Try.isAgg3 rfl (Holds.to (by assumption)) | exact Ex.loadIn1 Try.isAgg3 rfl (Holds.to (by assumption)) | exact Ex.loadM Try.isAgg3 rfl | exact Ex.loadVc Try.isAgg3 rfl) rfl ?_
    refine O.ex (Ex.maxI rfl rfl) rfl ?_
    refine O.ex (Ex.minI rfl rfl) rfl ?_
    refine O.ex (Ex.eqlI rfl rfl) rfl ?_
    refine O.ex (Ex.move rfl) rfl ?_
    refine O.known (t := 47) (c := true) rfl (by first | rfl | exact decide_eq_true hk | exact decide_eq_false k1 | exact decide_eq_false (fun hh => hh rfl)) ?_
    refine O.guard_f rfl rfl rfl rfl ?_
    refine O.guard_f rfl rfl rfl rfl ?_
    refine O.guard_f rfl rfl rfl rfl ?_
    refine O.guard_f rfl rfl rfl rfl ?_
    refine O.guard_u rfl rfl rfl ?_
    refine O.guard_u rfl rfl rfl ?_
    refine O.guard_f rfl rfl rfl rfl ?_
    refine O.ex (Ex.pick_t rfl rfl) rfl ?_
    first | refine O.storeP Try.sizeOf4 rfl rfl (fun w H => ?_) | refine O.storeR Try.sizeOf4 rfl rfl (fun w H => ?_) | refine O.storeM Try.sizeOf4 rfl rfl (fun w H => ?_) | refine O.storeVc Try.sizeOf4 rfl rfl (fun w H => ?_) | refine O.storeQ Try.sizeOf4 rfl rfl (fun w H => ?_)
    refine O.nil ?_
    refine hK11 _ _ _ ?_
    refine W.ret ?_
    try dsimp only [thenQ, blockQ, retQ]
    first | refine ⟨_, ⟨_, _, _, rfl, rfl, loadVar_one Try.isAgg4, rfl⟩, ?_⟩ | (refine retD_mark ?_; intro w H; refine ⟨_, ⟨_, _, _, rfl, rfl, loadVar_one Try.isAgg4, rfl⟩, ?_⟩) | (refine retD_mark2 ?_; intro w H; refine ⟨_, ⟨_, _, _, rfl, rfl, loadVar_one Try.isAgg4, rfl⟩, ?_⟩)
    first
    | exact ⟨rfl, Holds.swap (gh_open.2 ⟨ab, cap, es, Holds.to (by assumption)⟩)⟩
    | exact ⟨rfl, (gh_open.2 ⟨ab, cap, es, Holds.to (by assumption)⟩)⟩
  · have hk := hkf
    refine W.exit ?_
    refine hK5 _ _ _ ?_
    refine W.seq (fun K12 hK12 => ?_)
    refine W.region ?_
    refine O.ex (by first | exact Ex.loadRT Try.isAgg3 rfl | exact Ex.loadRA Try.isAgg3 rfl | exact Ex.loadRN Try.isAgg3 rfl | exact Ex.loadRM Try.isAgg3 rfl | exact Ex.loadP Try.isAgg3 rfl | exact Ex.loadQ Try.isAgg3 rfl | exact Ex.loadMh Try.isAgg3 rfl | exact Ex.loadR Try.isAgg3 rfl | exact Ex.loadInF Try.isAgg3 rfl (Holds.to (by assumption)) | exact Ex.loadIn1 Try.isAgg3 rfl (Holds.to (by assumption)) | exact Ex.loadM Try.isAgg3 rfl | exact Ex.loadVc Try.isAgg3 rfl) rfl ?_
    refine O.ex (by first | exact Ex.loadRT Try.isAgg37 rfl | exact Ex.loadRA Try.isAgg37 rfl | exact Ex.loadRN Try.isAgg37 rfl | exact Ex.loadRM Try.isAgg37 rfl | exact Ex.loadP Try.isAgg37 rfl | exact Ex.loadQ Try.isAgg37 rfl | exact Ex.loadMh Try.isAgg37 rfl | exact Ex.loadR Try.isAgg37 rfl | exact Ex.loadInF Try.isAgg37 rfl (Holds.to (by assumption)) | exact Ex.loadIn1 Try.isAgg37 rfl (Holds.to (by assumption)) | exact Ex.loadM Try.isAgg37 rfl | exact Ex.loadVc Try.isAgg37 rfl) rfl ?_
    refine O.ex (by first | exact Ex.lenR Try.runUnderlying37 rfl | exact Ex.lenIn Try.runUnderlying37 rfl | exact Ex.lenL Try.runUnderlying37 rfl | exact Ex.len rfl Try.runUnderlying37 rfl) rfl ?_
    refine O.ex (by first | exact Ex.loadRT Try.isAgg3 rfl | exact Ex.loadRA Try.isAgg3 rfl | exact Ex.loadRN Try.isAgg3 rfl | exact Ex.loadRM Try.isAgg3 rfl | exact Ex.loadP Try.isAgg3 rfl | exact Ex.loadQ Try.isAgg3 rfl | exact Ex.loadMh Try.isAgg3 rfl | exact Ex.loadR Try.isAgg3 rfl | exact Ex.loadInF Try.isAgg3 rfl (Holds.to (by assumption)) | exact Ex.loadIn1 Try.isAgg3 rfl (Holds.to (by assumption)) | exact Ex.loadM Try.isAgg3 rfl | exact Ex.loadVc Try.isAgg3 rfl) rfl ?_
    refine O.ex (Ex.maxI rfl rfl) rfl ?_
    refine O.ex (Ex.minI rfl rfl) rfl ?_
    refine O.ex (Ex.eqlI rfl rfl) rfl ?_
    refine O.ex (Ex.move rfl) rfl ?_
    refine O.known (t := 47) (c := true) rfl (by first | rfl | exact decide_eq_true hk | exact decide_eq_false k1 | exact decide_eq_false (fun hh => hh rfl)) ?_
    refine O.guard_f rfl rfl rfl rfl ?_
    refine O.guard_f rfl rfl rfl rfl ?_
    refine O.guard_f rfl rfl rfl rfl ?_
    refine O.guard_f rfl rfl rfl rfl ?_
    refine O.guard_u rfl rfl rfl ?_
    refine O.guard_u rfl rfl rfl ?_
    refine O.guard_f rfl rfl rfl rfl ?_
    refine O.ex (Ex.pick_t rfl rfl) rfl ?_
    first | refine O.storeP Try.sizeOf4 rfl rfl (fun w H => ?_) | refine O.storeR Try.sizeOf4 rfl rfl (fun w H => ?_) | refine O.storeM Try.sizeOf4 rfl rfl (fun w H => ?_) | refine O.storeVc Try.sizeOf4 rfl rfl (fun w H => ?_) | refine O.storeQ Try.sizeOf4 rfl rfl (fun w H => ?_)
    refine O.nil ?_
    refine hK12 _ _ _ ?_
    refine W.ret ?_
    try dsimp only [thenQ, blockQ, retQ]
    first | refine ⟨_, ⟨_, _, _, rfl, rfl, loadVar_one Try.isAgg4, rfl⟩, ?_⟩ | (refine retD_mark ?_; intro w H; refine ⟨_, ⟨_, _, _, rfl, rfl, loadVar_one Try.isAgg4, rfl⟩, ?_⟩) | (refine retD_mark2 ?_; intro w H; refine ⟨_, ⟨_, _, _, rfl, rfl, loadVar_one Try.isAgg4, rfl⟩, ?_⟩)
    first
    | exact ⟨rfl, Holds.swap (gh_open.2 ⟨ab, cap, es, Holds.to (by assumption)⟩)⟩
    | exact ⟨rfl, (gh_open.2 ⟨ab, cap, es, Holds.to (by assumption)⟩)⟩
end Go.Proofs.Ytakmbbgnnbpkoaa
