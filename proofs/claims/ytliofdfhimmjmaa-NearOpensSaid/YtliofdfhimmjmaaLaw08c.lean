import Derived.Test.YtliofdfhimmjmaaLaw08b
--ARR
--INF
--DEEP
--LOADS loadRT loadRA loadRN loadRM
--AGGLOADS loadRArc
namespace Go.Proofs.Ytliofdfhimmjmaa
open Go.Rr Go Gr
set_option linter.unusedVariables false
def doAll (n most : Int) (s : St) (l : List Chg) : St := l.foldl (doS n most) s
theorem doAll_snoc (n most : Int) (s : St) (l : List Chg) (c : Chg) : doAll n most s (l ++ [c]) = doS n most (doAll n most s l) c := by unfold doAll; rw [List.foldl_append]; rfl
theorem ok_all {n most : Int} : ∀ (l : List Chg) (s : St), GOk n most s → GOk n most (doAll n most s l)
  | [], s, h => h
  | c :: l, s, h => ok_all l _ (ok_do h c)
theorem take_getCh (xs : List Chg) {i : Nat} (h : i < xs.length) : xs.take (i + 1) = xs.take i ++ [xs.getD i default] := by
  rw [List.take_succ_eq_append_getElem h]; simp [List.getD_eq_getElem?_getD, h]
set_option maxHeartbeats 1000000 in
theorem made08_ct {w w0 : World} {q : Int} {v : Value} {l : List Chg} {L : List HProp} (hq : (Lit.int .u8 q).wf = true) (hx : SlIn w0 6 Chg.enc v l) (hl : l.length ≤ 9223372036854775807) (H : Holds w (base w0 :: L)) :
    CT Try.prog 11 [.int .u8 q, v] w fun x w' => ∃ g r, GOk (1 + q % 24) 64 (doAll (1 + q % 24) 64 noS (l.take 150)) ∧ x = .tuple #[.pointer (some ⟨g, 0, none⟩), .pointer (some ⟨r, 0, none⟩)] ∧ Holds w' (Gh g (1 + q % 24) 64 (doAll (1 + q % 24) 64 noS (l.take 150)) :: Rg r (1 + q % 24) 64 (doAll (1 + q % 24) 64 noS (l.take 150)) :: base w0 :: L) := by
  obtain ⟨q0, q1⟩ := bounds_u8 hq
  obtain ⟨n, hn⟩ : ∃ n, n = (1 : Int) + q % 24 := ⟨_, rfl⟩
  rw [← hn]
  have ok0 : GOk n 64 noS := ok_none (by omega) (by omega) (by omega) (by omega)
  refine CT.enter (N := 49) Try.func11 rfl rfl rfl rfl ?_
  refine W.seq (fun K0 hK0 => ?_)
  refine W.region ?_
  refine O.ex (Ex.assign rfl) rfl ?_
  refine O.ex (Ex.assign rfl) rfl ?_
  refine O.nil ?_
  refine hK0 _ _ _ ?_
  refine W.seq (fun K1 hK1 => ?_)
  refine W.region ?_
  refine O.ex (Ex.move rfl) rfl ?_
  refine O.ex (by first | exact Ex.convToI Try.runUnderlying5 Try.runUnderlying3 rfl | exact Ex.convW Try.runUnderlying5 Try.runUnderlying3 rfl) rfl ?_
  refine O.ex (by first | exact Ex.remI rfl rfl | exact Ex.rem rfl rfl (by omega) rfl) rfl ?_
  refine O.ex (by first | exact Ex.addI rfl rfl | exact Ex.add rfl rfl rfl) rfl ?_
  refine O.ex (Ex.assign rfl) rfl ?_
  refine O.nil ?_
  refine hK1 _ _ _ ?_
  refine W.seq (fun K2 hK2 => ?_)
  refine W.region ?_
  rw [← hn]
  refine O.ex (Ex.move rfl) rfl ?_
  refine O.callF Try.call34 rfl rfl (CT.mono (gnew_ct (n := n) (most := 64) (Holds.to (by assumption))) ?_)
  rintro _ w (⟨hno, -⟩ | ⟨hyes, g, rfl, H⟩)
  · exact absurd ⟨⟨by omega, by omega⟩, by omega, by omega⟩ hno
  refine O.ex (Ex.move rfl) rfl ?_
  refine O.ex (Ex.extract rfl rfl) rfl ?_
  refine O.ex (Ex.extract rfl rfl) rfl ?_
  refine O.ex (Ex.assign rfl) rfl ?_
  refine O.ex (Ex.assign rfl) rfl ?_
  refine O.nil ?_
  refine hK2 _ _ _ ?_
  refine W.seq (fun K3 hK3 => ?_)
  refine W.region ?_
  refine O.ex (Ex.move rfl) rfl ?_
  refine O.callF Try.call36 rfl rfl (CT.mono (rnew_ct (Holds.to (by assumption))) ?_)
  rintro _ w ⟨r, rfl, H⟩
  refine O.ex (Ex.assign rfl) rfl ?_
  refine O.nil ?_
  refine hK3 _ _ _ ?_
  refine W.seq (fun K4 hK4 => ?_)
  refine W.seq (fun K5 hK5 => ?_)
  refine W.region ?_
  refine O.ex (Ex.move rfl) rfl ?_
  refine O.ex (Ex.nilEq Try.runUnderlying24 rfl rfl) rfl ?_
  refine O.nil ?_
  refine hK5 _ _ _ ?_
  refine W.known_f rfl (by first | rfl | decide) ?_
  refine W.skip ?_
  refine hK4 _ _ _ ?_
  refine W.seq (fun K6 hK6 => ?_)
  refine W.seq (fun K7 hK7 => ?_)
  refine W.region ?_
  refine O.ex (Ex.assign rfl) rfl ?_
  refine O.nil ?_
  refine hK7 _ _ _ ?_
  refine W.block ?_
  refine W.loop (σ := Nat) (fun i => [(1, v), (7, .pointer (some ⟨g, 0, none⟩)), (9, .pointer (some ⟨r, 0, none⟩)), (10, .int .i64 (i : Int))]) (fun i ds w => ds = [] ∧ i ≤ l.length ∧ i ≤ 150 ∧ Holds w (Gh g n 64 (doAll n 64 noS (l.take i)) :: Rg r n 64 (doAll n 64 noS (l.take i)) :: base w0 :: L)) (fun i => l.length - i) 0 ⟨rfl, rfl, rfl, rfl, trivial⟩ ⟨rfl, by omega, by omega, Holds.to (by assumption)⟩ ?_
  clear H
  rintro i _ w ⟨rfl, hi, hi4, H⟩
  have hg := ok_all (l.take i) noS ok0
  refine W.seq (fun K8 hK8 => ?_)
  refine W.seq (fun K9 hK9 => ?_)
  refine W.region ?_
  refine O.ex (Ex.move rfl) rfl ?_
  refine O.ex (Ex.move rfl) rfl ?_
  refine O.ex (by first | exact Ex.lenN Try.runUnderlying22 rfl | exact Ex.lenIn Try.runUnderlying22 rfl | exact Ex.lenL Try.runUnderlying22 rfl | exact Ex.len rfl Try.runUnderlying22 rfl) rfl ?_
  refine O.ex (Ex.lss rfl rfl) rfl ?_
  refine O.ex (Ex.move rfl) rfl ?_
  first | refine O.split_p (t := 29) rfl (fun h1 => ?_) (fun h1 => ?_) | refine O.split (t := 29) rfl (fun h1 => ?_) (fun h1 => ?_)
  · refine O.guard_t rfl rfl ?_
    refine O.ex (Ex.move rfl) rfl ?_
    refine O.guard_t rfl rfl ?_
    refine O.ex (Ex.lss rfl rfl) rfl ?_
    refine O.ex (Ex.pick_t rfl rfl) rfl ?_
    refine O.nil ?_
    refine hK9 _ _ _ ?_
    first | refine W.cond_p rfl (fun hlt => ?_) (fun hge => ?_) | refine W.cond_b rfl (fun hlt => ?_) (fun hge => ?_)
    · refine W.skip ?_
      refine hK8 _ _ _ ?_
      refine W.seq (fun K10 hK10 => ?_)
      refine W.block ?_
      refine W.seq (fun K11 hK11 => ?_)
      refine W.region ?_
      have hi0 : (0 : Int) ≤ (i : Int) := by omega
      have hi1 : (i : Int) < l.length := h1
      have hil : i < l.length := by omega
      have e1 : doS n 64 (doAll n 64 noS (l.take i)) (l.getD i default) = doAll n 64 noS (l.take (i + 1)) := by rw [take_getCh l hil, doAll_snoc]
      refine O.ex (Ex.move rfl) rfl ?_
      refine O.ex (Ex.move rfl) rfl ?_
      refine O.ex (Ex.move rfl) rfl ?_
      refine O.ex (by first | exact Ex.idxIn Try.runUnderlying22 Try.sizeOf68 rfl rfl | exact Ex.idxN Try.runUnderlying22 Try.sizeOf68 rfl rfl | exact Ex.idxSN Try.runUnderlying22 Try.sizeOf68 rfl rfl | exact Ex.idx Try.runUnderlying22 Try.sizeOf68 rfl rfl (by omega) (by omega)) rfl ?_
      refine O.ex (by first | exact Ex.loadRArc Try.isAgg68 Try.sizeOf68 rfl | exact Ex.loadAggP Try.isAgg68 Try.sizeOf68 rfl | exact Ex.loadAggN Try.isAgg68 Try.sizeOf68 rfl | exact Ex.loadIn Try.isAgg68 Try.sizeOf68 rfl (Holds.to (by assumption))) rfl ?_
      refine O.callF Try.call37 rfl rfl (CT.mono (do_ct (c := l.getD i default) hg (Holds.to (by assumption))) ?_)
      rintro _ w ⟨-, H⟩
      refine O.nil ?_
      refine hK11 _ _ _ ?_
      refine W.region ?_
      refine O.ex (Ex.move rfl) rfl ?_
      refine O.ex (Ex.move rfl) rfl ?_
      refine O.ex (Ex.move rfl) rfl ?_
      refine O.ex (by first | exact Ex.idxIn Try.runUnderlying22 Try.sizeOf68 rfl rfl | exact Ex.idxN Try.runUnderlying22 Try.sizeOf68 rfl rfl | exact Ex.idxSN Try.runUnderlying22 Try.sizeOf68 rfl rfl | exact Ex.idx Try.runUnderlying22 Try.sizeOf68 rfl rfl (by omega) (by omega)) rfl ?_
      refine O.ex (by first | exact Ex.loadRArc Try.isAgg68 Try.sizeOf68 rfl | exact Ex.loadAggP Try.isAgg68 Try.sizeOf68 rfl | exact Ex.loadAggN Try.isAgg68 Try.sizeOf68 rfl | exact Ex.loadIn Try.isAgg68 Try.sizeOf68 rfl (Holds.to (by assumption))) rfl ?_
      refine O.callF Try.call38 rfl rfl (CT.mono (doRef_ct (c := l.getD i default) (Holds.to (by assumption))) ?_)
      rintro _ w ⟨-, H⟩
      rw [e1] at H
      refine O.nil ?_
      refine hK10 _ _ _ ?_
      refine W.region ?_
      refine O.ex (Ex.move rfl) rfl ?_
      refine O.ex (by first | exact Ex.addI rfl rfl | exact Ex.add rfl rfl rfl) rfl ?_
      refine O.ex (Ex.assign rfl) rfl ?_
      refine O.nil ?_
      exact ⟨i + 1, ⟨rfl, rfl, rfl, rfl, trivial⟩, ⟨rfl, by omega, by omega, Holds.to (by assumption)⟩, by omega⟩
    · refine W.exit ?_
      refine hK6 _ _ _ ?_
      refine W.seq (fun K12 hK12 => ?_)
      refine W.region ?_
      refine O.ex (Ex.move rfl) rfl ?_
      refine O.ex (Ex.move rfl) rfl ?_
      refine O.ex (Ex.assign rfl) rfl ?_
      refine O.ex (Ex.assign rfl) rfl ?_
      refine O.nil ?_
      refine hK12 _ _ _ ?_
      refine W.ret ?_
      try dsimp only [thenQ, blockQ, retQ]
      first | refine ⟨_, ⟨_, _, rfl, rfl, _, _, rfl, rfl, rfl⟩, ?_⟩ | (refine retD_mark ?_; intro w H; refine ⟨_, ⟨_, _, rfl, rfl, _, _, rfl, rfl, rfl⟩, ?_⟩) | (refine retD_mark2 ?_; intro w H; refine ⟨_, ⟨_, _, rfl, rfl, _, _, rfl, rfl, rfl⟩, ?_⟩)
      have e : l.take 150 = l.take i := by
        by_cases h : i = l.length
        · rw [h, List.take_length, List.take_of_length_le (by omega)]
        · rw [show i = 150 by omega]
      rw [e]
      exact ⟨g, r, hg, rfl, Holds.to (by assumption)⟩
  · refine O.guard_f rfl rfl rfl rfl ?_
    refine O.guard_f rfl rfl rfl rfl ?_
    refine O.ex (Ex.pick_f rfl rfl) rfl ?_
    refine O.nil ?_
    refine hK9 _ _ _ ?_
    refine W.cond_f rfl ?_
    refine W.exit ?_
    refine hK6 _ _ _ ?_
    refine W.seq (fun K13 hK13 => ?_)
    refine W.region ?_
    refine O.ex (Ex.move rfl) rfl ?_
    refine O.ex (Ex.move rfl) rfl ?_
    refine O.ex (Ex.assign rfl) rfl ?_
    refine O.ex (Ex.assign rfl) rfl ?_
    refine O.nil ?_
    refine hK13 _ _ _ ?_
    refine W.ret ?_
    try dsimp only [thenQ, blockQ, retQ]
    first | refine ⟨_, ⟨_, _, rfl, rfl, _, _, rfl, rfl, rfl⟩, ?_⟩ | (refine retD_mark ?_; intro w H; refine ⟨_, ⟨_, _, rfl, rfl, _, _, rfl, rfl, rfl⟩, ?_⟩) | (refine retD_mark2 ?_; intro w H; refine ⟨_, ⟨_, _, rfl, rfl, _, _, rfl, rfl, rfl⟩, ?_⟩)
    have e : l.take 150 = l.take i := by
      by_cases h : i = l.length
      · rw [h, List.take_length, List.take_of_length_le (by omega)]
      · rw [show i = 150 by omega]
    rw [e]
    exact ⟨g, r, hg, rfl, Holds.to (by assumption)⟩
def awA : Arc := ⟨2, 3, 5, false⟩
def awS1 : St := insS 4 2 noS 0 awA
def awS2 : St := insS 4 2 awS1 0 awA
def awS3 : St := insS 4 2 awS2 1 awA
def awS4 : St := insS 4 2 awS3 2 awA
def awS5 : St := turnS awS4 0 true
def awS6 : St := turnS awS5 0 true
def awS7 : St := delS awS6 2
theorem aw_c1 : insC 4 2 noS 0 awA = 0 := by decide +kernel
theorem aw_c2 : insC 4 2 awS1 0 awA = 4 := by decide +kernel
theorem aw_c3 : insC 4 2 awS2 1 awA = 0 := by decide +kernel
theorem aw_c4 : insC 4 2 awS3 2 awA = 2 := by decide +kernel
theorem aw_b1 : best awS4 2 3 = (5, 0) := by decide +kernel
theorem aw_b2 : (best awS5 2 3).2 = 1 := by decide +kernel
theorem aw_t : turnC awS5 0 true = 5 := by decide +kernel
theorem aw_d : thC awS6 2 = 3 := by decide +kernel
theorem aw_n : cnt awS7 = 2 := by decide +kernel
end Go.Proofs.Ytliofdfhimmjmaa
