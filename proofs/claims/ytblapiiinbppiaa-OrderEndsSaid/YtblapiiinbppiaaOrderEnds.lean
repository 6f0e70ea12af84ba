import Derived.Test.YtblapiiinbppiaaOrderNeeds
--ARR
--INF
--LOADS loadN
namespace Go.Proofs.Ytblapiiinbppiaa
open Go.Rr Go Hp Wt
set_option linter.unusedVariables false
def okS (x y : Int) (s : Step) : Prop := ¬ (s.f_U = x ∧ s.f_W ≠ y) ∧ ¬ (s.f_W = x ∧ s.f_U ≠ y)
def onlyY (x y : Int) (c : Int → Int → Int) : Prop := (∀ w, c x w ≠ 4611686018427387906 → w = y) ∧ (∀ u, c u x ≠ 4611686018427387906 → u = y)
theorem only_none (x y : Int) : onlyY x y noneM := ⟨fun w h => absurd rfl h, fun u h => absurd rfl h⟩
theorem only_put {x y n : Int} {c : Int → Int → Int} {s : Step} (hs : okS x y s) (h : onlyY x y c) : onlyY x y (putD n c s.f_U s.f_W s.f_Long) := by
  unfold putD
  split
  · unfold upd2
    refine ⟨fun w hw => ?_, fun u hu => ?_⟩
    · by_cases e : x = s.f_U ∧ w = s.f_W
      · rw [e.2]
        rcases Classical.em (s.f_W = y) with h1 | h1
        · exact h1
        · exact absurd ⟨e.1.symm, h1⟩ hs.1
      · dsimp only at hw; rw [if_neg e] at hw; exact h.1 w hw
    · by_cases e : u = s.f_U ∧ x = s.f_W
      · rw [e.1]
        rcases Classical.em (s.f_U = y) with h1 | h1
        · exact h1
        · exact absurd ⟨e.2.symm, h1⟩ hs.2
      · dsimp only at hu; rw [if_neg e] at hu; exact h.2 u hu
  · exact h
theorem need_zero {x y n settles : Int} {c : Int → Int → Int} (h : onlyY x y c) : needN n c x settles = 0 := by
  have e : detL n c x = [] := List.eq_nil_iff_forall_not_mem.2 fun d hd => by
    obtain ⟨i, _, hci, hd⟩ := memOutL hd
    obtain ⟨j, _, _, hcj, hne⟩ := memInn hd
    exact hne ((h.2 _ hci).trans (h.1 _ hcj).symm)
  unfold needN
  rw [e]; rfl
theorem mem_getS {l : List Step} {i : Nat} (h : i < l.length) : l.getD i default ∈ l := by
  rw [List.getD_eq_getElem?_getD, List.getElem?_eq_getElem h]; exact List.getElem_mem h
abbrev stp (v : Value) (xs : List Step) : HProp := arrN 44 3 Step.enc v xs
set_option maxHeartbeats 1000000 in
theorem madeA_ct {w : World} {q x y : Int} {v : Value} {l : List Step} {L : List HProp} (hq : (Lit.int .u8 q).wf = true) (hok : ∀ s ∈ l, okS x y s) (hl : l.length ≤ 400) (H : Holds w (stp v l :: L)) :
    CT Try.prog 16 [.int .u8 q, v] w fun u w' => ∃ m r c, Good (1 + q % 24) c ∧ onlyY x y c ∧ u = .tuple #[.pointer (some ⟨m, 0, none⟩), .pointer (some ⟨r, 0, none⟩)] ∧ Holds w' (Mh m (1 + q % 24) c :: L) := by
  obtain ⟨q0, q1⟩ := bounds_u8 hq
  obtain ⟨n, hn⟩ : ∃ n, n = (1 : Int) + q % 24 := ⟨_, rfl⟩
  rw [← hn]
  refine CT.enter (N := 71) Try.func16 rfl rfl rfl rfl ?_
  refine W.seq (fun K0 hK0 => ?_)
  refine W.region ?_
  refine O.ex (Ex.assign rfl) rfl ?_
  refine O.ex (Ex.assign rfl) rfl ?_
  refine O.nil ?_
  refine hK0 _ _ _ ?_
  refine W.seq (fun K1 hK1 => ?_)
  refine W.region ?_
  refine O.ex (Ex.move rfl) rfl ?_
  refine O.ex (by first | exact Ex.convToI Try.runUnderlying5 Try.runUnderlying3 rfl | exact Ex.convW Try.runUnderlying5 Try.runUnderlying3 rfl) rfl ?_
  refine O.ex (by first | exact Ex.remI rfl rfl | exact Ex.rem rfl rfl (by omega) rfl) rfl ?_
  refine O.ex (by first | exact Ex.addI rfl rfl | exact Ex.add rfl rfl rfl) rfl ?_
  refine O.ex (Ex.assign rfl) rfl ?_
  refine O.nil ?_
  refine hK1 _ _ _ ?_
  refine W.seq (fun K2 hK2 => ?_)
  refine W.region ?_
  rw [← hn]
  refine O.ex (Ex.move rfl) rfl ?_
  refine O.callF Try.call20 rfl rfl (CT.mono (new_ct (Holds.to (by assumption))) ?_)
  rintro _ w (⟨hno, -⟩ | ⟨hyes, m, rfl, H⟩)
  · exact absurd (by omega) hno
  refine O.ex (Ex.move rfl) rfl ?_
  refine O.ex (Ex.extract rfl rfl) rfl ?_
  refine O.ex (Ex.extract rfl rfl) rfl ?_
  refine O.ex (Ex.assign rfl) rfl ?_
  refine O.ex (Ex.assign rfl) rfl ?_
  refine O.nil ?_
  refine hK2 _ _ _ ?_
  refine W.seq (fun K3 hK3 => ?_)
  refine W.region ?_
  refine O.ex (Ex.move rfl) rfl ?_
  refine O.callF Try.call21 rfl rfl (CT.mono (refNew_ct (Holds.to (by assumption))) ?_)
  rintro _ w ⟨r, rfl, H⟩
  refine O.ex (Ex.assign rfl) rfl ?_
  refine O.nil ?_
  refine hK3 _ _ _ ?_
  refine W.seq (fun K4 hK4 => ?_)
  refine W.seq (fun K5 hK5 => ?_)
  refine W.region ?_
  refine O.ex (Ex.move rfl) rfl ?_
  refine O.ex (Ex.nilEq Try.runUnderlying25 rfl rfl) rfl ?_
  refine O.nil ?_
  refine hK5 _ _ _ ?_
  refine W.known_f rfl (by first | rfl | decide) ?_
  refine W.skip ?_
  refine hK4 _ _ _ ?_
  refine W.seq (fun K6 hK6 => ?_)
  refine W.seq (fun K7 hK7 => ?_)
  refine W.region ?_
  refine O.ex (Ex.assign rfl) rfl ?_
  refine O.nil ?_
  refine hK7 _ _ _ ?_
  refine W.block ?_
  have hg0 := good_none (n := n) (by omega) (by omega)
  refine W.loop (σ := Nat) (fun i => [(1, v), (7, .pointer (some ⟨m, 0, none⟩)), (9, .pointer (some ⟨r, 0, none⟩)), (10, .int .i64 (i : Int))]) (fun i ds w => ds = [] ∧ i ≤ l.length ∧ ∃ c, Good n c ∧ onlyY x y c ∧ Holds w (Mh m n c :: Rh r n c :: stp v l :: L)) (fun i => l.length - i) 0 ⟨rfl, rfl, rfl, rfl, trivial⟩ ⟨rfl, by omega, _, hg0, only_none x y, Holds.to (by assumption)⟩ ?_
  clear H hg0
  rintro i _ w ⟨rfl, hi, c, hg, hI, H⟩
  refine W.seq (fun K8 hK8 => ?_)
  refine W.seq (fun K9 hK9 => ?_)
  refine W.region ?_
  refine O.ex (Ex.move rfl) rfl ?_
  refine O.ex (Ex.move rfl) rfl ?_
  refine O.ex (by first | exact Ex.lenN Try.runUnderlying22 rfl | exact Ex.lenIn Try.runUnderlying22 rfl | exact Ex.lenL Try.runUnderlying22 rfl | exact Ex.len rfl Try.runUnderlying22 rfl) rfl ?_
  refine O.ex (Ex.lss rfl rfl) rfl ?_
  refine O.ex (Ex.move rfl) rfl ?_
  first | refine O.split_p (t := 29) rfl (fun h1 => ?_) (fun h1 => ?_) | refine O.split (t := 29) rfl (fun h1 => ?_) (fun h1 => ?_)
  · refine O.guard_t rfl rfl ?_
    refine O.ex (Ex.move rfl) rfl ?_
    refine O.guard_t rfl rfl ?_
    refine O.ex (Ex.lss rfl rfl) rfl ?_
    refine O.ex (Ex.pick_t rfl rfl) rfl ?_
    refine O.nil ?_
    refine hK9 _ _ _ ?_
    first | refine W.cond_p rfl (fun hlt => ?_) (fun hge => ?_) | refine W.cond_b rfl (fun hlt => ?_) (fun hge => ?_)
    · refine W.skip ?_
      refine hK8 _ _ _ ?_
      refine W.seq (fun K10 hK10 => ?_)
      refine W.block ?_
      refine W.seq (fun K11 hK11 => ?_)
      have hi0 : (0 : Int) ≤ (i : Int) := by omega
      have hi1 : (i : Int) < l.length := h1
      have hil : i < l.length := by omega
      have hos := hok _ (mem_getS hil)
      have hxs := arrN_sl (Holds.to (M := stp v l :: L) H) (by omega)
      refine W.drawTo (stp v l :: []) (.take 0 (.take 1 (.take 2 (.take 3 (.take 4 (.take 5 (.take 6 (.take 7 (.take 8 (.take 9 (.take 10 (.take 11 (.take 12 (.take 13 (.take 14 (.take 15 (.one 16 .nil))))))))))))))))) (mixed) (fun _ _ _ _ h => h) (by assumption) PP.auto (by decide +kernel) (fun w H => ?_)
      refine OQ.ex rfl (fun w H => (Ex.move rfl)) rfl ?_
      refine OQ.ex rfl (fun w H => (Ex.move rfl)) rfl ?_
      refine OQ.ex rfl (fun w H => (Ex.move rfl)) rfl ?_
      refine OQ.ex rfl (fun w H => (by first | exact Ex.idxIn Try.runUnderlying22 Try.sizeOf44 rfl rfl | exact Ex.idxN Try.runUnderlying22 Try.sizeOf44 rfl rfl | exact Ex.idxSN Try.runUnderlying22 Try.sizeOf44 rfl rfl | exact Ex.idx Try.runUnderlying22 Try.sizeOf44 rfl rfl (by omega) (by omega))) rfl ?_
      refine OQ.ex rfl (fun w H => (by first | exact Ex.field0 fld44_0 rfl | exact Ex.field fld44_0 rfl | exact Ex.fieldS fld44_0 rfl | exact Ex.fieldIn fld44_0 rfl)) rfl ?_
      refine OQ.ex rfl (fun w H => (by first | exact Ex.loadN Try.isAgg3 rfl | exact Ex.loadMh Try.isAgg3 rfl | exact Ex.loadInF Try.isAgg3 rfl (Holds.to (by assumption)) | exact Ex.loadP Try.isAgg3 rfl | exact Ex.loadM Try.isAgg3 rfl | exact Ex.loadIn1 Try.isAgg3 rfl (Holds.to (by assumption)) | exact Ex.loadVc Try.isAgg3 rfl | exact Ex.loadR Try.isAgg3 rfl | exact Ex.loadQ Try.isAgg3 rfl)) rfl ?_
      refine OQ.ex rfl (fun w H => (Ex.move rfl)) rfl ?_
      refine OQ.ex rfl (fun w H => (Ex.move rfl)) rfl ?_
      refine OQ.ex rfl (fun w H => (by first | exact Ex.idxIn Try.runUnderlying22 Try.sizeOf44 rfl rfl | exact Ex.idxN Try.runUnderlying22 Try.sizeOf44 rfl rfl | exact Ex.idxSN Try.runUnderlying22 Try.sizeOf44 rfl rfl | exact Ex.idx Try.runUnderlying22 Try.sizeOf44 rfl rfl (by omega) (by omega))) rfl ?_
      refine OQ.ex rfl (fun w H => (by first | exact Ex.field0 fld44_1 rfl | exact Ex.field fld44_1 rfl | exact Ex.fieldS fld44_1 rfl | exact Ex.fieldIn fld44_1 rfl)) rfl ?_
      refine OQ.ex rfl (fun w H => (by first | exact Ex.loadN Try.isAgg3 rfl | exact Ex.loadMh Try.isAgg3 rfl | exact Ex.loadInF Try.isAgg3 rfl (Holds.to (by assumption)) | exact Ex.loadP Try.isAgg3 rfl | exact Ex.loadM Try.isAgg3 rfl | exact Ex.loadIn1 Try.isAgg3 rfl (Holds.to (by assumption)) | exact Ex.loadVc Try.isAgg3 rfl | exact Ex.loadR Try.isAgg3 rfl | exact Ex.loadQ Try.isAgg3 rfl)) rfl ?_
      refine OQ.ex rfl (fun w H => (Ex.move rfl)) rfl ?_
      refine OQ.ex rfl (fun w H => (Ex.move rfl)) rfl ?_
      refine OQ.ex rfl (fun w H => (by first | exact Ex.idxIn Try.runUnderlying22 Try.sizeOf44 rfl rfl | exact Ex.idxN Try.runUnderlying22 Try.sizeOf44 rfl rfl | exact Ex.idxSN Try.runUnderlying22 Try.sizeOf44 rfl rfl | exact Ex.idx Try.runUnderlying22 Try.sizeOf44 rfl rfl (by omega) (by omega))) rfl ?_
      refine OQ.ex rfl (fun w H => (by first | exact Ex.field0 fld44_2 rfl | exact Ex.field fld44_2 rfl | exact Ex.fieldS fld44_2 rfl | exact Ex.fieldIn fld44_2 rfl)) rfl ?_
      refine OQ.ex rfl (fun w H => (by first | exact Ex.loadN Try.isAgg3 rfl | exact Ex.loadMh Try.isAgg3 rfl | exact Ex.loadInF Try.isAgg3 rfl (Holds.to (by assumption)) | exact Ex.loadP Try.isAgg3 rfl | exact Ex.loadM Try.isAgg3 rfl | exact Ex.loadIn1 Try.isAgg3 rfl (Holds.to (by assumption)) | exact Ex.loadVc Try.isAgg3 rfl | exact Ex.loadR Try.isAgg3 rfl | exact Ex.loadQ Try.isAgg3 rfl)) rfl ?_
      refine OQ.last rfl (by decide +kernel) ?_
      refine O.callF Try.call22 rfl rfl (CT.mono (put_ct hg (Holds.to (by assumption))) ?_)
      rintro _ w ⟨-, H⟩
      refine O.nil ?_
      refine hK11 _ _ _ ?_
      refine W.drawTo (stp v l :: []) (.take 0 (.take 1 (.take 2 (.take 3 (.take 4 (.take 5 (.take 6 (.take 7 (.take 8 (.take 9 (.take 10 (.take 11 (.take 12 (.take 13 (.take 14 (.take 15 (.one 16 .nil))))))))))))))))) (mixed) (fun _ _ _ _ h => h) (by assumption) PP.auto (by decide +kernel) (fun w H => ?_)
      refine OQ.ex rfl (fun w H => (Ex.move rfl)) rfl ?_
      refine OQ.ex rfl (fun w H => (Ex.move rfl)) rfl ?_
      refine OQ.ex rfl (fun w H => (Ex.move rfl)) rfl ?_
      refine OQ.ex rfl (fun w H => (by first | exact Ex.idxIn Try.runUnderlying22 Try.sizeOf44 rfl rfl | exact Ex.idxN Try.runUnderlying22 Try.sizeOf44 rfl rfl | exact Ex.idxSN Try.runUnderlying22 Try.sizeOf44 rfl rfl | exact Ex.idx Try.runUnderlying22 Try.sizeOf44 rfl rfl (by omega) (by omega))) rfl ?_
      refine OQ.ex rfl (fun w H => (by first | exact Ex.field0 fld44_0 rfl | exact Ex.field fld44_0 rfl | exact Ex.fieldS fld44_0 rfl | exact Ex.fieldIn fld44_0 rfl)) rfl ?_
      refine OQ.ex rfl (fun w H => (by first | exact Ex.loadN Try.isAgg3 rfl | exact Ex.loadMh Try.isAgg3 rfl | exact Ex.loadInF Try.isAgg3 rfl (Holds.to (by assumption)) | exact Ex.loadP Try.isAgg3 rfl | exact Ex.loadM Try.isAgg3 rfl | exact Ex.loadIn1 Try.isAgg3 rfl (Holds.to (by assumption)) | exact Ex.loadVc Try.isAgg3 rfl | exact Ex.loadR Try.isAgg3 rfl | exact Ex.loadQ Try.isAgg3 rfl)) rfl ?_
      refine OQ.ex rfl (fun w H => (Ex.move rfl)) rfl ?_
      refine OQ.ex rfl (fun w H => (Ex.move rfl)) rfl ?_
      refine OQ.ex rfl (fun w H => (by first | exact Ex.idxIn Try.runUnderlying22 Try.sizeOf44 rfl rfl | exact Ex.idxN Try.runUnderlying22 Try.sizeOf44 rfl rfl | exact Ex.idxSN Try.runUnderlying22 Try.sizeOf44 rfl rfl | exact Ex.idx Try.runUnderlying22 Try.sizeOf44 rfl rfl (by omega) (by omega))) rfl ?_
      refine OQ.ex rfl (fun w H => (by first | exact Ex.field0 fld44_1 rfl | exact Ex.field fld44_1 rfl | exact Ex.fieldS fld44_1 rfl | exact Ex.fieldIn fld44_1 rfl)) rfl ?_
      refine OQ.ex rfl (fun w H => (by first | exact Ex.loadN Try.isAgg3 rfl | exact Ex.loadMh Try.isAgg3 rfl | exact Ex.loadInF Try.isAgg3 rfl (Holds.to (by assumption)) | exact Ex.loadP Try.isAgg3 rfl | exact Ex.loadM Try.isAgg3 rfl | exact Ex.loadIn1 Try.isAgg3 rfl (Holds.to (by assumption)) | exact Ex.loadVc Try.isAgg3 rfl | exact Ex.loadR Try.isAgg3 rfl | exact Ex.loadQ Try.isAgg3 rfl)) rfl ?_
      refine OQ.ex rfl (fun w H => (Ex.move rfl)) rfl ?_
      refine OQ.ex rfl (fun w H => (Ex.move rfl)) rfl ?_
      refine OQ.ex rfl (fun w H => (by first | exact Ex.idxIn Try.runUnderlying22 Try.sizeOf44 rfl rfl | exact Ex.idxN Try.runUnderlying22 Try.sizeOf44 rfl rfl | exact Ex.idxSN Try.runUnderlying22 Try.sizeOf44 rfl rfl | exact Ex.idx Try.runUnderlying22 Try.sizeOf44 rfl rfl (by omega) (by omega))) rfl ?_
      refine OQ.ex rfl (fun w H => (by first | exact Ex.field0 fld44_2 rfl | exact Ex.field fld44_2 rfl | exact Ex.fieldS fld44_2 rfl | exact Ex.fieldIn fld44_2 rfl)) rfl ?_
      refine OQ.ex rfl (fun w H => (by first | exact Ex.loadN Try.isAgg3 rfl | exact Ex.loadMh Try.isAgg3 rfl | exact Ex.loadInF Try.isAgg3 rfl (Holds.to (by assumption)) | exact Ex.loadP Try.isAgg3 rfl | exact Ex.loadM Try.isAgg3 rfl | exact Ex.loadIn1 Try.isAgg3 rfl (Holds.to (by assumption)) | exact Ex.loadVc Try.isAgg3 rfl | exact Ex.loadR Try.isAgg3 rfl | exact Ex.loadQ Try.isAgg3 rfl)) rfl ?_
      refine OQ.last rfl (by decide +kernel) ?_
      refine O.callF Try.call23 rfl rfl (CT.mono (refPut_ct hg (Holds.to (by assumption))) ?_)
      rintro _ w ⟨-, H⟩
      refine O.nil ?_
      refine hK10 _ _ _ ?_
      refine W.region ?_
      refine O.ex (Ex.move rfl) rfl ?_
      refine O.ex (by first | exact Ex.addI rfl rfl | exact Ex.add rfl rfl rfl) rfl ?_
      refine O.ex (Ex.assign rfl) rfl ?_
      refine O.nil ?_
      exact ⟨i + 1, ⟨rfl, rfl, rfl, rfl, trivial⟩, ⟨rfl, by omega, _, good_put hg _ _ _, only_put hos hI, Holds.to (by assumption)⟩, by omega⟩
    · refine W.exit ?_
      refine hK6 _ _ _ ?_
      refine W.seq (fun K12 hK12 => ?_)
      refine W.region ?_
      refine O.ex (Ex.move rfl) rfl ?_
      refine O.ex (Ex.move rfl) rfl ?_
      refine O.ex (Ex.assign rfl) rfl ?_
      refine O.ex (Ex.assign rfl) rfl ?_
      refine O.nil ?_
      refine hK12 _ _ _ ?_
      refine W.ret ?_
      try dsimp only [thenQ, blockQ, retQ]
      first | refine ⟨_, ⟨_, _, rfl, rfl, _, _, rfl, rfl, rfl⟩, ?_⟩ | (refine retD_mark ?_; intro w H; refine ⟨_, ⟨_, _, rfl, rfl, _, _, rfl, rfl, rfl⟩, ?_⟩) | (refine retD_mark2 ?_; intro w H; refine ⟨_, ⟨_, _, rfl, rfl, _, _, rfl, rfl, rfl⟩, ?_⟩)
      exact ⟨m, r, c, hg, hI, rfl, Holds.to (by assumption)⟩
  · refine O.guard_f rfl rfl rfl rfl ?_
    refine O.guard_f rfl rfl rfl rfl ?_
    refine O.ex (Ex.pick_f rfl rfl) rfl ?_
    refine O.nil ?_
    refine hK9 _ _ _ ?_
    refine W.cond_f rfl ?_
    refine W.exit ?_
    refine hK6 _ _ _ ?_
    refine W.seq (fun K13 hK13 => ?_)
    refine W.region ?_
    refine O.ex (Ex.move rfl) rfl ?_
    refine O.ex (Ex.move rfl) rfl ?_
    refine O.ex (Ex.assign rfl) rfl ?_
    refine O.ex (Ex.assign rfl) rfl ?_
    refine O.nil ?_
    refine hK13 _ _ _ ?_
    refine W.ret ?_
    try dsimp only [thenQ, blockQ, retQ]
    first | refine ⟨_, ⟨_, _, rfl, rfl, _, _, rfl, rfl, rfl⟩, ?_⟩ | (refine retD_mark ?_; intro w H; refine ⟨_, ⟨_, _, rfl, rfl, _, _, rfl, rfl, rfl⟩, ?_⟩) | (refine retD_mark2 ?_; intro w H; refine ⟨_, ⟨_, _, rfl, rfl, _, _, rfl, rfl, rfl⟩, ?_⟩)
    exact ⟨m, r, c, hg, hI, rfl, Holds.to (by assumption)⟩
set_option maxHeartbeats 2000000 in
theorem orderEnds_ct {w0 : World} {q a b settles : Int} {lv : Value} {l : List Step} (hq : (Lit.int .u8 q).wf = true) (hx : SlIn w0 3 Step.enc lv l) (hl : l.length ≤ 9223372036854775807) (ha : (Lit.int .u8 a).wf = true) (hb : (Lit.int .u8 b).wf = true) :
    CT Try.prog 12 [.int .u8 q, lv, .int .u8 a, .int .u8 b, .int .i64 settles] w0 fun y w' => y = .bool true ∧ RowKit.Below w0.heap.size w0 w' := by
  have H := Holds.base_refl w0
  obtain ⟨q0, q1⟩ := bounds_u8 hq
  obtain ⟨a0, a1⟩ := bounds_u8 ha
  obtain ⟨b0, b1⟩ := bounds_u8 hb
  refine CT.enter (N := 96) Try.func12 rfl rfl rfl rfl ?_
  refine W.seq (fun K0 hK0 => ?_)
  refine W.region ?_
  refine O.ex (Ex.assign rfl) rfl ?_
  refine O.nil ?_
  refine hK0 _ _ _ ?_
  refine W.seq (fun K1 hK1 => ?_)
  refine W.seq (fun K2 hK2 => ?_)
  refine W.region ?_
  refine O.callF Try.call43 rfl rfl (CT.mono (awake14_ct (Holds.to (by assumption))) ?_)
  rintro _ w ⟨rfl, H⟩
  refine O.ex (by first | exact Ex.notD rfl | exact Ex.not rfl) rfl ?_
  refine O.nil ?_
  refine hK2 _ _ _ ?_
  refine W.known_f rfl (by first | rfl | decide | exact decide_eq_true hz) ?_
  refine W.skip ?_
  refine hK1 _ _ _ ?_
  refine W.seq (fun K3 hK3 => ?_)
  refine W.region ?_
  refine O.ex (Ex.assign rfl) rfl ?_
  refine O.nil ?_
  refine hK3 _ _ _ ?_
  refine W.seq (fun K4 hK4 => ?_)
  refine W.region ?_
  refine O.ex (Ex.move rfl) rfl ?_
  refine O.ex (by first | exact Ex.convToI Try.runUnderlying5 Try.runUnderlying3 rfl | exact Ex.convW Try.runUnderlying5 Try.runUnderlying3 rfl) rfl ?_
  refine O.ex (by first | exact Ex.remI rfl rfl | exact Ex.rem rfl rfl (by omega) rfl) rfl ?_
  refine O.ex (by first | exact Ex.addI rfl rfl | exact Ex.add rfl rfl rfl) rfl ?_
  refine O.ex (Ex.assign rfl) rfl ?_
  refine O.nil ?_
  refine hK4 _ _ _ ?_
  refine W.seq (fun K5 hK5 => ?_)
  refine W.drawTo _ (.take 0 (.take 1 (.take 2 (.take 3 (.take 4 (.take 5 (.take 6 (.take 7 (.take 8 (.take 9 .nil)))))))))) (mixed) (fun _ _ _ _ h => h) (by assumption) (PP.refl _) (by decide +kernel) (fun w H => ?_)
  refine OQ.ex rfl (fun w H => (Ex.move rfl)) rfl ?_
  refine OQ.ex rfl (fun w H => (by first | exact Ex.convToI Try.runUnderlying5 Try.runUnderlying3 rfl | exact Ex.convW Try.runUnderlying5 Try.runUnderlying3 rfl)) rfl ?_
  refine OQ.ex rfl (fun w H => (Ex.move rfl)) rfl ?_
  refine OQ.ex rfl (fun w H => (by first | exact Ex.remI rfl rfl | exact Ex.rem rfl rfl (by omega) rfl)) rfl ?_
  refine OQ.ex rfl (fun w H => (Ex.move rfl)) rfl ?_
  refine OQ.ex rfl (fun w H => (by first | exact Ex.convToI Try.runUnderlying5 Try.runUnderlying3 rfl | exact Ex.convW Try.runUnderlying5 Try.runUnderlying3 rfl)) rfl ?_
  refine OQ.ex rfl (fun w H => (Ex.move rfl)) rfl ?_
  refine OQ.ex rfl (fun w H => (by first | exact Ex.remI rfl rfl | exact Ex.rem rfl rfl (by omega) rfl)) rfl ?_
  refine OQ.ex rfl (fun w H => (Ex.assign rfl)) rfl ?_
  refine OQ.ex rfl (fun w H => (Ex.assign rfl)) rfl ?_
  refine OQ.done ?_
  refine hK5 _ _ _ ?_
  refine W.seq (fun K6 hK6 => ?_)
  refine W.seq (fun K7 hK7 => ?_)
  refine W.region ?_
  refine O.ex (Ex.assign rfl) rfl ?_
  refine O.nil ?_
  refine hK7 _ _ _ ?_
  refine W.block ?_
  obtain ⟨n, hn⟩ : ∃ n, n = (1 : Int) + q % 24 := ⟨_, rfl⟩
  obtain ⟨x, hxv⟩ : ∃ x, x = a % n := ⟨_, rfl⟩
  obtain ⟨y, hyv⟩ : ∃ y, y = b % n := ⟨_, rfl⟩
  have H := arrN_nil (T := 44) (sz := 3) (e := Step.enc) H
  refine W.loop (σ := Nat × Value × List Step) (fun z => [(0, .int .u8 q), (1, lv), (4, .int .i64 settles), (11, z.2.1), (13, .int .i64 x), (14, .int .i64 y), (15, .int .i64 (z.1 : Int))]) (fun z ds w => ds = [] ∧ z.1 ≤ l.length ∧ z.1 ≤ 400 ∧ z.2.2.length ≤ z.1 ∧ z.2.1.oneCell' = true ∧ (∀ s ∈ z.2.2, okS x y s) ∧ Holds w (stp z.2.1 z.2.2 :: base w0 :: [])) (fun z => l.length - z.1) (0, .slice none 0 0, []) ⟨rfl, rfl, rfl, rfl, by rw [hxv, hn]; rfl, by rw [hyv, hn]; rfl, rfl, trivial⟩ ⟨rfl, by dsimp only; omega, by dsimp only; omega, Nat.le_refl _, rfl, (fun s hs => by cases hs), Holds.to H⟩ ?_
  clear H
  rintro ⟨i, u, ys⟩ _ w ⟨rfl, hi, hi4, hyl, hu1, hys, H⟩
  dsimp only at hi hi4 hyl hu1 hys H ⊢
  refine W.seq (fun K8 hK8 => ?_)
  refine W.seq (fun K9 hK9 => ?_)
  refine W.region ?_
  refine O.ex (Ex.move rfl) rfl ?_
  refine O.ex (Ex.move rfl) rfl ?_
  refine O.ex (by first | exact Ex.lenN Try.runUnderlying22 rfl | exact Ex.lenIn Try.runUnderlying22 rfl | exact Ex.lenL Try.runUnderlying22 rfl | exact Ex.len rfl Try.runUnderlying22 rfl) rfl ?_
  refine O.ex (Ex.lss rfl rfl) rfl ?_
  refine O.ex (Ex.move rfl) rfl ?_
  first | refine O.split_p (t := 39) rfl (fun h1 => ?_) (fun h1 => ?_) | refine O.split (t := 39) rfl (fun h1 => ?_) (fun h1 => ?_)
  · refine O.guard_t rfl rfl ?_
    refine O.ex (Ex.move rfl) rfl ?_
    refine O.guard_t rfl rfl ?_
    refine O.ex (Ex.lss rfl rfl) rfl ?_
    refine O.ex (Ex.pick_t rfl rfl) rfl ?_
    refine O.nil ?_
    refine hK9 _ _ _ ?_
    first | refine W.cond_p rfl (fun hlt => ?_) (fun hge => ?_) | refine W.cond_b rfl (fun hlt => ?_) (fun hge => ?_)
    · refine W.skip ?_
      refine hK8 _ _ _ ?_
      refine W.seq (fun K10 hK10 => ?_)
      refine W.block ?_
      refine W.seq (fun K11 hK11 => ?_)
      refine W.region ?_
      have hi0 : (0 : Int) ≤ (i : Int) := by omega
      have hi1 : (i : Int) < l.length := h1
      have hil : i < l.length := by omega
      refine O.ex (Ex.move rfl) rfl ?_
      refine O.ex (Ex.move rfl) rfl ?_
      refine O.ex (by first | exact Ex.idxIn Try.runUnderlying22 Try.sizeOf44 rfl rfl | exact Ex.idxN Try.runUnderlying22 Try.sizeOf44 rfl rfl | exact Ex.idxSN Try.runUnderlying22 Try.sizeOf44 rfl rfl | exact Ex.idx Try.runUnderlying22 Try.sizeOf44 rfl rfl (by omega) (by omega)) rfl ?_
      refine O.ex (by first | exact Ex.loadAggP Try.isAgg44 Try.sizeOf44 rfl | exact Ex.loadAggN Try.isAgg44 Try.sizeOf44 rfl | exact Ex.loadIn Try.isAgg44 Try.sizeOf44 rfl (Holds.to (by assumption))) rfl ?_
      refine O.allocP Try.zeroValue44 (fun b16 w H => ?_)
      first | refine O.storeAggP Try.sizeOf44 rfl rfl rfl rfl (fun w H => ?_) | refine O.storeAggN Try.sizeOf44 rfl rfl rfl (fun w H => ?_) rfl
      refine O.nil ?_
      refine hK11 _ _ _ ?_
      refine W.seq (fun K12 hK12 => ?_)
      refine W.seq (fun K13 hK13 => ?_)
      refine W.region ?_
      refine O.ex (by first | exact Ex.field0 fld44_0 rfl | exact Ex.field fld44_0 rfl | exact Ex.fieldS fld44_0 rfl | exact Ex.fieldIn fld44_0 rfl) rfl ?_
      refine O.ex (by first | exact Ex.loadN Try.isAgg3 rfl | exact Ex.loadMh Try.isAgg3 rfl | exact Ex.loadInF Try.isAgg3 rfl (Holds.to (by assumption)) | exact Ex.loadP Try.isAgg3 rfl | exact Ex.loadM Try.isAgg3 rfl | exact Ex.loadIn1 Try.isAgg3 rfl (Holds.to (by assumption)) | exact Ex.loadVc Try.isAgg3 rfl | exact Ex.loadR Try.isAgg3 rfl | exact Ex.loadQ Try.isAgg3 rfl) rfl ?_
      refine O.ex (Ex.move rfl) rfl ?_
      refine O.ex (Ex.eqlI rfl rfl) rfl ?_
      refine O.ex (Ex.move rfl) rfl ?_
      first | refine O.split_p (t := 53) rfl (fun hA => ?_) (fun hB => ?_) | refine O.split (t := 53) rfl (fun hA => ?_) (fun hB => ?_)
      · refine O.guard_t rfl rfl ?_
        refine O.ex (by first | exact Ex.field0 fld44_1 rfl | exact Ex.field fld44_1 rfl | exact Ex.fieldS fld44_1 rfl | exact Ex.fieldIn fld44_1 rfl) rfl ?_
        refine O.guard_t rfl rfl ?_
        refine O.ex (by first | exact Ex.loadN Try.isAgg3 rfl | exact Ex.loadMh Try.isAgg3 rfl | exact Ex.loadInF Try.isAgg3 rfl (Holds.to (by assumption)) | exact Ex.loadP Try.isAgg3 rfl | exact Ex.loadM Try.isAgg3 rfl | exact Ex.loadIn1 Try.isAgg3 rfl (Holds.to (by assumption)) | exact Ex.loadVc Try.isAgg3 rfl | exact Ex.loadR Try.isAgg3 rfl | exact Ex.loadQ Try.isAgg3 rfl) rfl ?_
        refine O.guard_t rfl rfl ?_
        refine O.ex (Ex.move rfl) rfl ?_
        refine O.guard_t rfl rfl ?_
        refine O.ex (Ex.neqI rfl rfl) rfl ?_
        refine O.ex (Ex.pick_t rfl rfl) rfl ?_
        refine O.ex (Ex.move rfl) rfl ?_
        first | refine O.split_p (t := 59) rfl (fun hC => ?_) (fun hD => ?_) | refine O.split (t := 59) rfl (fun hC => ?_) (fun hD => ?_)
        · refine O.guard_f rfl rfl rfl rfl ?_
          refine O.guard_f rfl rfl rfl rfl ?_
          refine O.guard_f rfl rfl rfl rfl ?_
          refine O.guard_f rfl rfl rfl rfl ?_
          refine O.guard_f rfl rfl rfl rfl ?_
          refine O.guard_u rfl rfl rfl ?_
          refine O.guard_u rfl rfl rfl ?_
          refine O.guard_u rfl rfl rfl ?_
          refine O.guard_u rfl rfl rfl ?_
          refine O.guard_f rfl rfl rfl rfl ?_
          refine O.ex (Ex.pick_t rfl rfl) rfl ?_
          refine O.nil ?_
          refine hK13 _ _ _ ?_
          refine W.cond_t rfl ?_
          refine W.exit ?_
          refine hK10 _ _ _ ?_
          refine W.region ?_
          refine O.ex (Ex.move rfl) rfl ?_
          refine O.ex (by first | exact Ex.addI rfl rfl | exact Ex.add rfl rfl rfl) rfl ?_
          refine O.ex (Ex.assign rfl) rfl ?_
          refine O.nil ?_
          first
          | (have hos : okS x y (l.getD i default) := ⟨fun h => by first | exact hB h.1 | exact hD h.2, fun h => by first | exact hF h.1 | exact hI h.2⟩
             exact ⟨(i + 1, v74, ys ++ [l.getD i default]), ⟨rfl, rfl, rfl, rfl, rfl, rfl, rfl, trivial⟩, ⟨rfl, by dsimp only; omega, by dsimp only; omega, by dsimp only; rw [List.length_append]; simp; omega, hv74, (fun s hs => by
               rcases List.mem_append.1 hs with hs | hs
               · exact hys s hs
               · rw [List.mem_singleton.1 hs]; exact hos), Holds.to (by assumption)⟩, by dsimp only; omega⟩)
          | exact ⟨(i + 1, u, ys), ⟨rfl, rfl, rfl, rfl, rfl, rfl, rfl, trivial⟩, ⟨rfl, by dsimp only; omega, by dsimp only; omega, by dsimp only; omega, hu1, hys, Holds.to (by assumption)⟩, by dsimp only; omega⟩
        · refine O.guard_t rfl rfl ?_
          refine O.ex (by first | exact Ex.field0 fld44_1 rfl | exact Ex.field fld44_1 rfl | exact Ex.fieldS fld44_1 rfl | exact Ex.fieldIn fld44_1 rfl) rfl ?_
          refine O.guard_t rfl rfl ?_
          refine O.ex (by first | exact Ex.loadN Try.isAgg3 rfl | exact Ex.loadMh Try.isAgg3 rfl | exact Ex.loadInF Try.isAgg3 rfl (Holds.to (by assumption)) | exact Ex.loadP Try.isAgg3 rfl | exact Ex.loadM Try.isAgg3 rfl | exact Ex.loadIn1 Try.isAgg3 rfl (Holds.to (by assumption)) | exact Ex.loadVc Try.isAgg3 rfl | exact Ex.loadR Try.isAgg3 rfl | exact Ex.loadQ Try.isAgg3 rfl) rfl ?_
          refine O.guard_t rfl rfl ?_
          refine O.ex (Ex.move rfl) rfl ?_
          refine O.guard_t rfl rfl ?_
          refine O.ex (Ex.eqlI rfl rfl) rfl ?_
          refine O.guard_t rfl rfl ?_
          refine O.ex (Ex.move rfl) rfl ?_
          first | refine O.split_p (t := 64) rfl (fun hE => ?_) (fun hF => ?_) | refine O.split (t := 64) rfl (fun hE => ?_) (fun hF => ?_)
          · refine O.guard_t rfl rfl ?_
            refine O.ex (by first | exact Ex.field0 fld44_0 rfl | exact Ex.field fld44_0 rfl | exact Ex.fieldS fld44_0 rfl | exact Ex.fieldIn fld44_0 rfl) rfl ?_
            refine O.guard_t rfl rfl ?_
            refine O.ex (by first | exact Ex.loadN Try.isAgg3 rfl | exact Ex.loadMh Try.isAgg3 rfl | exact Ex.loadInF Try.isAgg3 rfl (Holds.to (by assumption)) | exact Ex.loadP Try.isAgg3 rfl | exact Ex.loadM Try.isAgg3 rfl | exact Ex.loadIn1 Try.isAgg3 rfl (Holds.to (by assumption)) | exact Ex.loadVc Try.isAgg3 rfl | exact Ex.loadR Try.isAgg3 rfl | exact Ex.loadQ Try.isAgg3 rfl) rfl ?_
            refine O.guard_t rfl rfl ?_
            refine O.ex (Ex.move rfl) rfl ?_
            refine O.guard_t rfl rfl ?_
            refine O.ex (Ex.neqI rfl rfl) rfl ?_
            refine O.guard_t rfl rfl ?_
            refine O.ex (Ex.pick_t rfl rfl) rfl ?_
            refine O.ex (Ex.pick_f rfl rfl) rfl ?_
            refine O.nil ?_
            refine hK13 _ _ _ ?_
            first | refine W.cond_p rfl (fun hG => ?_) (fun hI => ?_) | refine W.cond_b rfl (fun hG => ?_) (fun hI => ?_)
            · refine W.exit ?_
              refine hK10 _ _ _ ?_
              refine W.region ?_
              refine O.ex (Ex.move rfl) rfl ?_
              refine O.ex (by first | exact Ex.addI rfl rfl | exact Ex.add rfl rfl rfl) rfl ?_
              refine O.ex (Ex.assign rfl) rfl ?_
              refine O.nil ?_
              first
              | (have hos : okS x y (l.getD i default) := ⟨fun h => by first | exact hB h.1 | exact hD h.2, fun h => by first | exact hF h.1 | exact hI h.2⟩
                 exact ⟨(i + 1, v74, ys ++ [l.getD i default]), ⟨rfl, rfl, rfl, rfl, rfl, rfl, rfl, trivial⟩, ⟨rfl, by dsimp only; omega, by dsimp only; omega, by dsimp only; rw [List.length_append]; simp; omega, hv74, (fun s hs => by
                   rcases List.mem_append.1 hs with hs | hs
                   · exact hys s hs
                   · rw [List.mem_singleton.1 hs]; exact hos), Holds.to (by assumption)⟩, by dsimp only; omega⟩)
              | exact ⟨(i + 1, u, ys), ⟨rfl, rfl, rfl, rfl, rfl, rfl, rfl, trivial⟩, ⟨rfl, by dsimp only; omega, by dsimp only; omega, by dsimp only; omega, hu1, hys, Holds.to (by assumption)⟩, by dsimp only; omega⟩
            · refine W.skip ?_
              refine hK12 _ _ _ ?_
              refine W.region ?_
              refine O.ex (Ex.move rfl) rfl ?_
              refine O.ex (by first | exact Ex.loadAggP Try.isAgg44 Try.sizeOf44 rfl | exact Ex.loadAggN Try.isAgg44 Try.sizeOf44 rfl | exact Ex.loadIn Try.isAgg44 Try.sizeOf44 rfl (Holds.to (by assumption))) rfl ?_
              refine O.build1N (e := Step.enc) (z := l.getD i default) Try.runUnderlying22 Try.sizeOf44 Try.zeroValue44 rfl rfl (fun v73 w hv73 H => ?_)
              refine O.appendN Try.runUnderlying22 Try.typeInfo44 (bt := 24) rfl Try.sizeOf44 Try.zeroValue44 rfl rfl (fun v74 w hv74 H => ?_)
              refine O.ex (Ex.assign rfl) rfl ?_
              refine O.nil ?_
              refine hK10 _ _ _ ?_
              refine W.region ?_
              refine O.ex (Ex.move rfl) rfl ?_
              refine O.ex (by first | exact Ex.addI rfl rfl | exact Ex.add rfl rfl rfl) rfl ?_
              refine O.ex (Ex.assign rfl) rfl ?_
              refine O.nil ?_
              first
              | (have hos : okS x y (l.getD i default) := ⟨fun h => by first | exact hB h.1 | exact hD h.2, fun h => by first | exact hF h.1 | exact hI h.2⟩
                 exact ⟨(i + 1, v74, ys ++ [l.getD i default]), ⟨rfl, rfl, rfl, rfl, rfl, rfl, rfl, trivial⟩, ⟨rfl, by dsimp only; omega, by dsimp only; omega, by dsimp only; rw [List.length_append]; simp; omega, hv74, (fun s hs => by
                   rcases List.mem_append.1 hs with hs | hs
                   · exact hys s hs
                   · rw [List.mem_singleton.1 hs]; exact hos), Holds.to (by assumption)⟩, by dsimp only; omega⟩)
              | exact ⟨(i + 1, u, ys), ⟨rfl, rfl, rfl, rfl, rfl, rfl, rfl, trivial⟩, ⟨rfl, by dsimp only; omega, by dsimp only; omega, by dsimp only; omega, hu1, hys, Holds.to (by assumption)⟩, by dsimp only; omega⟩
          · refine O.guard_f rfl rfl rfl rfl ?_
            refine O.guard_f rfl rfl rfl rfl ?_
            refine O.guard_f rfl rfl rfl rfl ?_
            refine O.guard_f rfl rfl rfl rfl ?_
            refine O.guard_t rfl rfl ?_
            refine O.ex (Ex.pick_f rfl rfl) rfl ?_
            refine O.ex (Ex.pick_f rfl rfl) rfl ?_
            refine O.nil ?_
            refine hK13 _ _ _ ?_
            refine W.cond_f rfl ?_
            refine W.skip ?_
            refine hK12 _ _ _ ?_
            refine W.region ?_
            refine O.ex (Ex.move rfl) rfl ?_
            refine O.ex (by first | exact Ex.loadAggP Try.isAgg44 Try.sizeOf44 rfl | exact Ex.loadAggN Try.isAgg44 Try.sizeOf44 rfl | exact Ex.loadIn Try.isAgg44 Try.sizeOf44 rfl (Holds.to (by assumption))) rfl ?_
            refine O.build1N (e := Step.enc) (z := l.getD i default) Try.runUnderlying22 Try.sizeOf44 Try.zeroValue44 rfl rfl (fun v73 w hv73 H => ?_)
            refine O.appendN Try.runUnderlying22 Try.typeInfo44 (bt := 24) rfl Try.sizeOf44 Try.zeroValue44 rfl rfl (fun v74 w hv74 H => ?_)
            refine O.ex (Ex.assign rfl) rfl ?_
            refine O.nil ?_
            refine hK10 _ _ _ ?_
            refine W.region ?_
            refine O.ex (Ex.move rfl) rfl ?_
            refine O.ex (by first | exact Ex.addI rfl rfl | exact Ex.add rfl rfl rfl) rfl ?_
            refine O.ex (Ex.assign rfl) rfl ?_
            refine O.nil ?_
            first
            | (have hos : okS x y (l.getD i default) := ⟨fun h => by first | exact hB h.1 | exact hD h.2, fun h => by first | exact hF h.1 | exact hI h.2⟩
               exact ⟨(i + 1, v74, ys ++ [l.getD i default]), ⟨rfl, rfl, rfl, rfl, rfl, rfl, rfl, trivial⟩, ⟨rfl, by dsimp only; omega, by dsimp only; omega, by dsimp only; rw [List.length_append]; simp; omega, hv74, (fun s hs => by
                 rcases List.mem_append.1 hs with hs | hs
                 · exact hys s hs
                 · rw [List.mem_singleton.1 hs]; exact hos), Holds.to (by assumption)⟩, by dsimp only; omega⟩)
            | exact ⟨(i + 1, u, ys), ⟨rfl, rfl, rfl, rfl, rfl, rfl, rfl, trivial⟩, ⟨rfl, by dsimp only; omega, by dsimp only; omega, by dsimp only; omega, hu1, hys, Holds.to (by assumption)⟩, by dsimp only; omega⟩
      · refine O.guard_f rfl rfl rfl rfl ?_
        refine O.guard_f rfl rfl rfl rfl ?_
        refine O.guard_f rfl rfl rfl rfl ?_
        refine O.guard_f rfl rfl rfl rfl ?_
        refine O.ex (Ex.pick_f rfl rfl) rfl ?_
        refine O.ex (Ex.move rfl) rfl ?_
        refine O.guard_t rfl rfl ?_
        refine O.ex (by first | exact Ex.field0 fld44_1 rfl | exact Ex.field fld44_1 rfl | exact Ex.fieldS fld44_1 rfl | exact Ex.fieldIn fld44_1 rfl) rfl ?_
        refine O.guard_t rfl rfl ?_
        refine O.ex (by first | exact Ex.loadN Try.isAgg3 rfl | exact Ex.loadMh Try.isAgg3 rfl | exact Ex.loadInF Try.isAgg3 rfl (Holds.to (by assumption)) | exact Ex.loadP Try.isAgg3 rfl | exact Ex.loadM Try.isAgg3 rfl | exact Ex.loadIn1 Try.isAgg3 rfl (Holds.to (by assumption)) | exact Ex.loadVc Try.isAgg3 rfl | exact Ex.loadR Try.isAgg3 rfl | exact Ex.loadQ Try.isAgg3 rfl) rfl ?_
        refine O.guard_t rfl rfl ?_
        refine O.ex (Ex.move rfl) rfl ?_
        refine O.guard_t rfl rfl ?_
        refine O.ex (Ex.eqlI rfl rfl) rfl ?_
        refine O.guard_t rfl rfl ?_
        refine O.ex (Ex.move rfl) rfl ?_
        first | refine O.split_p (t := 64) rfl (fun hE => ?_) (fun hF => ?_) | refine O.split (t := 64) rfl (fun hE => ?_) (fun hF => ?_)
        · refine O.guard_t rfl rfl ?_
          refine O.ex (by first | exact Ex.field0 fld44_0 rfl | exact Ex.field fld44_0 rfl | exact Ex.fieldS fld44_0 rfl | exact Ex.fieldIn fld44_0 rfl) rfl ?_
          refine O.guard_t rfl rfl ?_
          refine O.ex (by first | exact Ex.loadN Try.isAgg3 rfl | exact Ex.loadMh Try.isAgg3 rfl | exact Ex.loadInF Try.isAgg3 rfl (Holds.to (by assumption)) | exact Ex.loadP Try.isAgg3 rfl | exact Ex.loadM Try.isAgg3 rfl | exact Ex.loadIn1 Try.isAgg3 rfl (Holds.to (by assumption)) | exact Ex.loadVc Try.isAgg3 rfl | exact Ex.loadR Try.isAgg3 rfl | exact Ex.loadQ Try.isAgg3 rfl) rfl ?_
          refine O.guard_t rfl rfl ?_
          refine O.ex (Ex.move rfl) rfl ?_
          refine O.guard_t rfl rfl ?_
          refine O.ex (Ex.neqI rfl rfl) rfl ?_
          refine O.guard_t rfl rfl ?_
          refine O.ex (Ex.pick_t rfl rfl) rfl ?_
          refine O.ex (Ex.pick_f rfl rfl) rfl ?_
          refine O.nil ?_
          refine hK13 _ _ _ ?_
          first | refine W.cond_p rfl (fun hG => ?_) (fun hI => ?_) | refine W.cond_b rfl (fun hG => ?_) (fun hI => ?_)
          · refine W.exit ?_
            refine hK10 _ _ _ ?_
            refine W.region ?_
            refine O.ex (Ex.move rfl) rfl ?_
            refine O.ex (by first | exact Ex.addI rfl rfl | exact Ex.add rfl rfl rfl) rfl ?_
            refine O.ex (Ex.assign rfl) rfl ?_
            refine O.nil ?_
            first
            | (have hos : okS x y (l.getD i default) := ⟨fun h => by first | exact hB h.1 | exact hD h.2, fun h => by first | exact hF h.1 | exact hI h.2⟩
               exact ⟨(i + 1, v74, ys ++ [l.getD i default]), ⟨rfl, rfl, rfl, rfl, rfl, rfl, rfl, trivial⟩, ⟨rfl, by dsimp only; omega, by dsimp only; omega, by dsimp only; rw [List.length_append]; simp; omega, hv74, (fun s hs => by
                 rcases List.mem_append.1 hs with hs | hs
                 · exact hys s hs
                 · rw [List.mem_singleton.1 hs]; exact hos), Holds.to (by assumption)⟩, by dsimp only; omega⟩)
            | exact ⟨(i + 1, u, ys), ⟨rfl, rfl, rfl, rfl, rfl, rfl, rfl, trivial⟩, ⟨rfl, by dsimp only; omega, by dsimp only; omega, by dsimp only; omega, hu1, hys, Holds.to (by assumption)⟩, by dsimp only; omega⟩
          · refine W.skip ?_
            refine hK12 _ _ _ ?_
            refine W.region ?_
            refine O.ex (Ex.move rfl) rfl ?_
            refine O.ex (by first | exact Ex.loadAggP Try.isAgg44 Try.sizeOf44 rfl | exact Ex.loadAggN Try.isAgg44 Try.sizeOf44 rfl | exact Ex.loadIn Try.isAgg44 Try.sizeOf44 rfl (Holds.to (by assumption))) rfl ?_
            refine O.build1N (e := Step.enc) (z := l.getD i default) Try.runUnderlying22 Try.sizeOf44 Try.zeroValue44 rfl rfl (fun v73 w hv73 H => ?_)
            refine O.appendN Try.runUnderlying22 Try.typeInfo44 (bt := 24) rfl Try.sizeOf44 Try.zeroValue44 rfl rfl (fun v74 w hv74 H => ?_)
            refine O.ex (Ex.assign rfl) rfl ?_
            refine O.nil ?_
            refine hK10 _ _ _ ?_
            refine W.region ?_
            refine O.ex (Ex.move rfl) rfl ?_
            refine O.ex (by first | exact Ex.addI rfl rfl | exact Ex.add rfl rfl rfl) rfl ?_
            refine O.ex (Ex.assign rfl) rfl ?_
            refine O.nil ?_
            first
            | (have hos : okS x y (l.getD i default) := ⟨fun h => by first | exact hB h.1 | exact hD h.2, fun h => by first | exact hF h.1 | exact hI h.2⟩
               exact ⟨(i + 1, v74, ys ++ [l.getD i default]), ⟨rfl, rfl, rfl, rfl, rfl, rfl, rfl, trivial⟩, ⟨rfl, by dsimp only; omega, by dsimp only; omega, by dsimp only; rw [List.length_append]; simp; omega, hv74, (fun s hs => by
                 rcases List.mem_append.1 hs with hs | hs
                 · exact hys s hs
                 · rw [List.mem_singleton.1 hs]; exact hos), Holds.to (by assumption)⟩, by dsimp only; omega⟩)
            | exact ⟨(i + 1, u, ys), ⟨rfl, rfl, rfl, rfl, rfl, rfl, rfl, trivial⟩, ⟨rfl, by dsimp only; omega, by dsimp only; omega, by dsimp only; omega, hu1, hys, Holds.to (by assumption)⟩, by dsimp only; omega⟩
        · refine O.guard_f rfl rfl rfl rfl ?_
          refine O.guard_f rfl rfl rfl rfl ?_
          refine O.guard_f rfl rfl rfl rfl ?_
          refine O.guard_f rfl rfl rfl rfl ?_
          refine O.guard_t rfl rfl ?_
          refine O.ex (Ex.pick_f rfl rfl) rfl ?_
          refine O.ex (Ex.pick_f rfl rfl) rfl ?_
          refine O.nil ?_
          refine hK13 _ _ _ ?_
          refine W.cond_f rfl ?_
          refine W.skip ?_
          refine hK12 _ _ _ ?_
          refine W.region ?_
          refine O.ex (Ex.move rfl) rfl ?_
          refine O.ex (by first | exact Ex.loadAggP Try.isAgg44 Try.sizeOf44 rfl | exact Ex.loadAggN Try.isAgg44 Try.sizeOf44 rfl | exact Ex.loadIn Try.isAgg44 Try.sizeOf44 rfl (Holds.to (by assumption))) rfl ?_
          refine O.build1N (e := Step.enc) (z := l.getD i default) Try.runUnderlying22 Try.sizeOf44 Try.zeroValue44 rfl rfl (fun v73 w hv73 H => ?_)
          refine O.appendN Try.runUnderlying22 Try.typeInfo44 (bt := 24) rfl Try.sizeOf44 Try.zeroValue44 rfl rfl (fun v74 w hv74 H => ?_)
          refine O.ex (Ex.assign rfl) rfl ?_
          refine O.nil ?_
          refine hK10 _ _ _ ?_
          refine W.region ?_
          refine O.ex (Ex.move rfl) rfl ?_
          refine O.ex (by first | exact Ex.addI rfl rfl | exact Ex.add rfl rfl rfl) rfl ?_
          refine O.ex (Ex.assign rfl) rfl ?_
          refine O.nil ?_
          first
          | (have hos : okS x y (l.getD i default) := ⟨fun h => by first | exact hB h.1 | exact hD h.2, fun h => by first | exact hF h.1 | exact hI h.2⟩
             exact ⟨(i + 1, v74, ys ++ [l.getD i default]), ⟨rfl, rfl, rfl, rfl, rfl, rfl, rfl, trivial⟩, ⟨rfl, by dsimp only; omega, by dsimp only; omega, by dsimp only; rw [List.length_append]; simp; omega, hv74, (fun s hs => by
               rcases List.mem_append.1 hs with hs | hs
               · exact hys s hs
               · rw [List.mem_singleton.1 hs]; exact hos), Holds.to (by assumption)⟩, by dsimp only; omega⟩)
          | exact ⟨(i + 1, u, ys), ⟨rfl, rfl, rfl, rfl, rfl, rfl, rfl, trivial⟩, ⟨rfl, by dsimp only; omega, by dsimp only; omega, by dsimp only; omega, hu1, hys, Holds.to (by assumption)⟩, by dsimp only; omega⟩
    · refine W.exit ?_
      refine hK6 _ _ _ ?_
      refine W.seq (fun K14 hK14 => ?_)
      refine W.region ?_
      refine O.ex (Ex.move rfl) rfl ?_
      refine O.ex (Ex.move rfl) rfl ?_
      refine O.callF Try.call16 rfl rfl (CT.mono (madeA_ct (x := x) (y := y) (l := ys) hq hys (by omega) (Holds.to (by assumption))) ?_)
      rintro _ w ⟨m, r, c, hg, hI, rfl, H⟩
      refine O.ex (Ex.move rfl) rfl ?_
      refine O.ex (Ex.extract rfl rfl) rfl ?_
      refine O.ex (Ex.extract rfl rfl) rfl ?_
      refine O.ex (Ex.assign rfl) rfl ?_
      refine O.ex (Ex.assign rfl) rfl ?_
      refine O.nil ?_
      refine hK14 _ _ _ ?_
      refine W.seq (fun K15 hK15 => ?_)
      refine W.seq (fun K16 hK16 => ?_)
      refine W.region ?_
      refine O.ex (Ex.move rfl) rfl ?_
      refine O.ex (Ex.nilEq Try.runUnderlying25 rfl rfl) rfl ?_
      refine O.nil ?_
      refine hK16 _ _ _ ?_
      refine W.known_f rfl (by first | rfl | decide | exact decide_eq_true hz) ?_
      refine W.skip ?_
      refine hK15 _ _ _ ?_
      refine W.seq (fun K17 hK17 => ?_)
      refine W.region ?_
      rw [← hn] at hg H
      have hz : ((needN n c x settles : Nat) : Int) = 0 := by rw [need_zero hI]; rfl
      have hv : 0 ≤ x ∧ x < n := by rw [hxv]; exact ⟨Int.emod_nonneg _ (by omega), Int.emod_lt_of_pos _ (by omega)⟩
      refine O.ex (Ex.move rfl) rfl ?_
      refine O.ex (Ex.move rfl) rfl ?_
      refine O.ex (Ex.move rfl) rfl ?_
      refine O.callF Try.call44 rfl rfl (CT.mono (needV_ct hg hv (Holds.to (by assumption))) ?_)
      rintro _ w ⟨rfl, H⟩
      refine O.ex (Ex.move rfl) rfl ?_
      refine O.ex (Ex.extract rfl rfl) rfl ?_
      refine O.ex (Ex.extract rfl rfl) rfl ?_
      refine O.ex (Ex.assign rfl) rfl ?_
      refine O.ex (Ex.assign rfl) rfl ?_
      refine O.nil ?_
      refine hK17 _ _ _ ?_
      refine W.seq (fun K18 hK18 => ?_)
      refine W.region ?_
      refine O.ex (Ex.move rfl) rfl ?_
      refine O.ex (Ex.eqlI rfl rfl) rfl ?_
      refine O.ex (Ex.move rfl) rfl ?_
      refine O.known (t := 92) (c := true) rfl (by first | rfl | decide | exact decide_eq_true hz) ?_
      refine O.guard_t rfl rfl ?_
      refine O.ex (Ex.move rfl) rfl ?_
      refine O.guard_t rfl rfl ?_
      refine O.ex (Ex.eqlI rfl rfl) rfl ?_
      refine O.ex (Ex.pick_t rfl rfl) rfl ?_
      refine O.ex (Ex.assign rfl) rfl ?_
      refine O.nil ?_
      refine hK18 _ _ _ ?_
      refine W.ret ?_
      try dsimp only [thenQ, blockQ, retQ]
      first | refine ⟨_, ⟨_, _, rfl, rfl, rfl⟩, ?_⟩ | (refine retD_mark ?_; intro w H; refine ⟨_, ⟨_, _, rfl, rfl, rfl⟩, ?_⟩) | (refine retD_mark2 ?_; intro w H; refine ⟨_, ⟨_, _, rfl, rfl, rfl⟩, ?_⟩)
      exact ⟨by first | rfl | exact congrArg Value.bool (decide_eq_true rfl), Holds.base_below (L := []) (Holds.to (by assumption))⟩
  · refine O.guard_f rfl rfl rfl rfl ?_
    refine O.guard_f rfl rfl rfl rfl ?_
    refine O.ex (Ex.pick_f rfl rfl) rfl ?_
    refine O.nil ?_
    refine hK9 _ _ _ ?_
    refine W.cond_f rfl ?_
    refine W.exit ?_
    refine hK6 _ _ _ ?_
    refine W.seq (fun K19 hK19 => ?_)
    refine W.region ?_
    refine O.ex (Ex.move rfl) rfl ?_
    refine O.ex (Ex.move rfl) rfl ?_
    refine O.callF Try.call16 rfl rfl (CT.mono (madeA_ct (x := x) (y := y) (l := ys) hq hys (by omega) (Holds.to (by assumption))) ?_)
    rintro _ w ⟨m, r, c, hg, hI, rfl, H⟩
    refine O.ex (Ex.move rfl) rfl ?_
    refine O.ex (Ex.extract rfl rfl) rfl ?_
    refine O.ex (Ex.extract rfl rfl) rfl ?_
    refine O.ex (Ex.assign rfl) rfl ?_
    refine O.ex (Ex.assign rfl) rfl ?_
    refine O.nil ?_
    refine hK19 _ _ _ ?_
    refine W.seq (fun K20 hK20 => ?_)
    refine W.seq (fun K21 hK21 => ?_)
    refine W.region ?_
    refine O.ex (Ex.move rfl) rfl ?_
    refine O.ex (Ex.nilEq Try.runUnderlying25 rfl rfl) rfl ?_
    refine O.nil ?_
    refine hK21 _ _ _ ?_
    refine W.known_f rfl (by first | rfl | decide | exact decide_eq_true hz) ?_
    refine W.skip ?_
    refine hK20 _ _ _ ?_
    refine W.seq (fun K22 hK22 => ?_)
    refine W.region ?_
    rw [← hn] at hg H
    have hz : ((needN n c x settles : Nat) : Int) = 0 := by rw [need_zero hI]; rfl
    have hv : 0 ≤ x ∧ x < n := by rw [hxv]; exact ⟨Int.emod_nonneg _ (by omega), Int.emod_lt_of_pos _ (by omega)⟩
    refine O.ex (Ex.move rfl) rfl ?_
    refine O.ex (Ex.move rfl) rfl ?_
    refine O.ex (Ex.move rfl) rfl ?_
    refine O.callF Try.call44 rfl rfl (CT.mono (needV_ct hg hv (Holds.to (by assumption))) ?_)
    rintro _ w ⟨rfl, H⟩
    refine O.ex (Ex.move rfl) rfl ?_
    refine O.ex (Ex.extract rfl rfl) rfl ?_
    refine O.ex (Ex.extract rfl rfl) rfl ?_
    refine O.ex (Ex.assign rfl) rfl ?_
    refine O.ex (Ex.assign rfl) rfl ?_
    refine O.nil ?_
    refine hK22 _ _ _ ?_
    refine W.seq (fun K23 hK23 => ?_)
    refine W.region ?_
    refine O.ex (Ex.move rfl) rfl ?_
    refine O.ex (Ex.eqlI rfl rfl) rfl ?_
    refine O.ex (Ex.move rfl) rfl ?_
    refine O.known (t := 92) (c := true) rfl (by first | rfl | decide | exact decide_eq_true hz) ?_
    refine O.guard_t rfl rfl ?_
    refine O.ex (Ex.move rfl) rfl ?_
    refine O.guard_t rfl rfl ?_
    refine O.ex (Ex.eqlI rfl rfl) rfl ?_
    refine O.ex (Ex.pick_t rfl rfl) rfl ?_
    refine O.ex (Ex.assign rfl) rfl ?_
    refine O.nil ?_
    refine hK23 _ _ _ ?_
    refine W.ret ?_
    try dsimp only [thenQ, blockQ, retQ]
    first | refine ⟨_, ⟨_, _, rfl, rfl, rfl⟩, ?_⟩ | (refine retD_mark ?_; intro w H; refine ⟨_, ⟨_, _, rfl, rfl, rfl⟩, ?_⟩) | (refine retD_mark2 ?_; intro w H; refine ⟨_, ⟨_, _, rfl, rfl, rfl⟩, ?_⟩)
    exact ⟨by first | rfl | exact congrArg Value.bool (decide_eq_true rfl), Holds.base_below (L := []) (Holds.to (by assumption))⟩
theorem orderEnds_row {w0 : World} {q a b settles : Int} {lv : Value} {l : List Step} (hq : (Lit.int .u8 q).wf = true) (hx : SlIn w0 3 Step.enc lv l) (hg : ∀ x ∈ l, x.ok) (hl : l.length ≤ maxLen) (ha : (Lit.int .u8 a).wf = true) (hb : (Lit.int .u8 b).wf = true) (hs : (Lit.int .i64 settles).wf = true) :
    CT Try.prog 12 [.int .u8 q, lv, .int .u8 a, .int .u8 b, .int .i64 settles] w0 fun x w' => x = .bool true ∧ RowKit.Below w0.heap.size w0 w' :=
  orderEnds_ct hq hx (by unfold maxLen at hl; omega) ha hb
end Go.Proofs.Ytblapiiinbppiaa
