import Derived.Test.YtliofdfhimmjmaaHeap2
namespace Go.Proofs.Ytliofdfhimmjmaa
open Go.Rr Go Hp
set_option linter.unusedVariables false
set_option maxHeartbeats 1000000 in
theorem downI_ct {w : World} {h n p : Nat} {tv pv qv : Value} {t : List Nat} {pl pr : List Int} {L : List HProp} (hpi : PI n t pl) (hpr : pr.length = n) (hn : n ≤ 64) (hp : p < t.length) (hdi : DI (kI pr) t p) (H : Holds w (HpOI h tv pv qv t pl pr :: L)) :
    CT Try.prog 96 [.pointer (some ⟨h, 0, none⟩), .int .i64 (p : Int)] w fun u w' => u = .tuple #[] ∧ ∃ t' pl', PI n t' pl' ∧ HI (kI pr) t' ∧ (∀ x, x ∈ t' ↔ x ∈ t) ∧ Holds w' (HpOI h tv pv qv t' pl' pr :: L) := by
  obtain ⟨x, hx⟩ : ∃ x, x = t.getD p default := ⟨_, rfl⟩
  have hmid := Mid.start hpi hp
  rw [← hx] at hmid
  have htn := hpi.len_le
  have so := so_key soI fun x => pr.getD x default
  have H := hpOI_open.1 H
  refine CT.enter (N := 78) Try.func96 rfl rfl rfl rfl ?_
  refine W.seq (fun K0 hK0 => ?_)
  refine W.region ?_
  refine O.ex (Ex.move rfl) rfl ?_
  refine O.ex (by first | exact Ex.nilPtr rfl | exact Ex.nilFunc rfl | exact Ex.nilYield rfl) rfl ?_
  refine O.ex (by first | exact Ex.field0 fld126_0 rfl | exact Ex.field fld126_0 rfl | exact Ex.fieldS fld126_0 rfl) rfl ?_
  refine O.ex (by first | exact Ex.loadP Try.isAgg28 rfl | exact Ex.loadR Try.isAgg28 rfl | exact Ex.loadIn1 Try.isAgg28 rfl (Holds.to (by assumption))) rfl ?_
  refine O.ex (Ex.move rfl) rfl ?_
  refine O.ex (by first | exact Ex.idxR Try.runUnderlying28 Try.sizeOf3 rfl rfl | exact Ex.idxIn Try.runUnderlying28 Try.sizeOf3 rfl rfl | exact Ex.idxS Try.runUnderlying28 Try.sizeOf3 rfl rfl | exact Ex.idx Try.runUnderlying28 Try.sizeOf3 rfl rfl (by omega) (by omega)) rfl ?_
  refine O.ex (by first | exact Ex.loadP Try.isAgg3 rfl | exact Ex.loadR Try.isAgg3 rfl | exact Ex.loadIn1 Try.isAgg3 rfl (Holds.to (by assumption))) rfl ?_
  rw [show t.getD ((p : Nat) : Int).toNat default = x from hx.symm]
  refine O.ex (Ex.assign rfl) rfl ?_
  refine O.nil ?_
  refine hK0 _ _ _ ?_
  refine W.seq (fun K1 hK1 => ?_)
  refine W.block ?_
  have H := (hpOI_open (h := h) (tv := tv) (pv := pv) (qv := qv) (t := t) (pl := pl) (pr := pr)).2 (Holds.to (by assumption))
  refine W.loop (σ := Nat) (fun q => [(0, .pointer (some ⟨h, 0, none⟩)), (1, .int .i64 (q : Int)), (4, .int .i64 (x : Int))]) (fun q ds w => ds = [] ∧ ∃ T PL ta pa, Mid n T PL ta pa q x ∧ DI (kI pr) T q ∧ (∀ y, y ∈ T ↔ y ∈ t) ∧ Holds w (HpOI h tv pv qv ta pa pr :: L)) (fun q : Nat => 64 - q) p ⟨rfl, rfl, rfl, trivial⟩ ⟨rfl, t, pl, t, pl, hmid, hdi, fun _ => Iff.rfl, Holds.to (by assumption)⟩ ?_
  clear H hmid hdi
  rintro q _ w ⟨rfl, T, PL, ta, pa, hm, hdi, hmem, H⟩
  have hq := hm.lp
  have hTn := hm.pi.len_le
  have hxn := hm.xn
  have hla := hm.la
  have hlt := hm.lt
  have H := hpOI_open.1 H
  refine W.block ?_
  refine W.seq (fun K2 hK2 => ?_)
  refine W.region ?_
  refine O.ex (Ex.move rfl) rfl ?_
  refine O.ex (by first | exact Ex.mul rfl rfl (IntWalk.i64_in _ ⟨by omega, by omega⟩) | exact Ex.mul rfl rfl rfl) rfl ?_
  refine O.ex (by first | exact Ex.addI rfl rfl | exact Ex.add rfl rfl rfl) rfl ?_
  refine O.ex (Ex.assign rfl) rfl ?_
  refine O.nil ?_
  refine hK2 _ _ _ ?_
  refine W.seq (fun K3 hK3 => ?_)
  refine W.seq (fun K4 hK4 => ?_)
  refine W.region ?_
  refine O.ex (Ex.move rfl) rfl ?_
  refine O.ex (Ex.move rfl) rfl ?_
  refine O.ex (by first | exact Ex.nilPtr rfl | exact Ex.nilFunc rfl | exact Ex.nilYield rfl) rfl ?_
  refine O.ex (by first | exact Ex.field0 fld126_0 rfl | exact Ex.field fld126_0 rfl | exact Ex.fieldS fld126_0 rfl) rfl ?_
  refine O.ex (by first | exact Ex.loadP Try.isAgg28 rfl | exact Ex.loadR Try.isAgg28 rfl | exact Ex.loadIn1 Try.isAgg28 rfl (Holds.to (by assumption))) rfl ?_
  refine O.ex (by first | exact Ex.lenR Try.runUnderlying28 rfl | exact Ex.lenIn Try.runUnderlying28 rfl | exact Ex.lenL Try.runUnderlying28 rfl | exact Ex.len rfl Try.runUnderlying28 rfl) rfl ?_
  refine O.ex (Ex.geq rfl rfl) rfl ?_
  refine O.nil ?_
  refine hK4 _ _ _ ?_
  first | refine W.cond_p rfl (fun hend => ?_) (fun hmore => ?_) | refine W.cond_b rfl (fun hend => ?_) (fun hmore => ?_)
  · refine W.exit ?_
    refine hK1 _ _ _ ?_
    refine W.region ?_
    have H := (hpOI_open (h := h) (tv := tv) (pv := pv) (qv := qv) (t := ta) (pl := pa) (pr := pr)).2 (Holds.to (by first | exact hpOI_open.1 (Holds.to (by assumption)) | assumption))
    refine O.ex (Ex.move rfl) rfl ?_
    refine O.ex (Ex.move rfl) rfl ?_
    refine O.ex (Ex.move rfl) rfl ?_
    refine O.callF Try.call95 rfl rfl (CT.mono (layI_ct (tv := tv) (pv := pv) (qv := qv) (t := ta) (pl := pa) (pr := pr) (by omega) (by omega) (Holds.to (by assumption))) ?_)
    rintro _ w ⟨-, H⟩
    rw [hm.done.1, hm.done.2] at H
    refine O.nil ?_
    try dsimp only [thenQ, blockQ, retQ]
    first | refine ⟨_, rfl, ?_⟩ | (refine retD_mark ?_; intro w H; refine ⟨_, rfl, ?_⟩) | (refine retD_mark2 ?_; intro w H; refine ⟨_, rfl, ?_⟩)
    refine ⟨rfl, T, PL, hm.pi, hdi.done fun i h0 h1 h2 => ?_, hmem, Holds.to (by assumption)⟩
    first
    | exact so.le_tr (by rw [hm.gp]; exact hstop) (hmin i h0 h1 h2)
    | exact absurd h1 (by omega)
  · refine W.skip ?_
    refine hK3 _ _ _ ?_
    refine W.seq (fun K5 hK5 => ?_)
    refine W.seq (fun K6 hK6 => ?_)
    have hc1 : 2 * q + 1 < T.length := by omega
    have hca : (2 * (q : Int) + 1).toNat = 2 * q + 1 := by omega
    have hcb : (2 * (q : Int) + 1 + 1).toNat = 2 * q + 2 := by omega
    have g1 : ta.getD (2 * (q : Int) + 1).toNat default = T.getD (2 * q + 1) default := by rw [hca]; exact hm.st _ hc1 (by omega)
    have n1 : ta.getD (2 * (q : Int) + 1).toNat default < pr.length := by rw [g1, hpr]; exact hm.pi.lt _ hc1
    have g2 : 2 * q + 2 < T.length → ta.getD (2 * (q : Int) + 1 + 1).toNat default = T.getD (2 * q + 2) default := fun hc2 => by rw [hcb]; exact hm.st _ hc2 (by omega)
    have n2 : 2 * q + 2 < T.length → ta.getD (2 * (q : Int) + 1 + 1).toNat default < pr.length := fun hc2 => by rw [g2 hc2, hpr]; exact hm.pi.lt _ hc2
    have s1 := arr_sl (e := eN) (v := tv) (xs := ta) (Holds.to (by assumption)) (by omega)
    refine W.drawTo _ (.take 0 (.take 1 (.take 2 (.take 3 (.take 4 (.take 5 (.take 6 (.take 7 (.take 8 (.take 9 (.take 10 (.take 11 (.take 12 (.take 13 (.take 14 (.take 15 (.take 16 (.take 17 (.take 18 (.take 19 (.take 20 (.take 21 (.take 22 (.take 23 (.take 24 (.one 25 (.take 26 .nil))))))))))))))))))))))))))) (mixed) (fun _ _ _ _ h => h) (by assumption) (PP.refl _) (by decide +kernel) (fun w H => ?_)
    refine OQ.ex rfl (fun w H => (Ex.move rfl)) rfl ?_
    refine OQ.ex rfl (fun w H => (by first | exact Ex.addI rfl rfl | exact Ex.add rfl rfl rfl)) rfl ?_
    refine OQ.ex rfl (fun w H => (Ex.move rfl)) rfl ?_
    refine OQ.ex rfl (fun w H => (by first | exact Ex.nilPtr rfl | exact Ex.nilFunc rfl | exact Ex.nilYield rfl)) rfl ?_
    refine OQ.ex rfl (fun w H => (by first | exact Ex.field0 fld126_0 rfl | exact Ex.field fld126_0 rfl | exact Ex.fieldS fld126_0 rfl)) rfl ?_
    refine OQ.ex rfl (fun w H => (by first | exact Ex.loadP Try.isAgg28 rfl | exact Ex.loadR Try.isAgg28 rfl | exact Ex.loadIn1 Try.isAgg28 rfl (Holds.to (by assumption)))) rfl ?_
    refine OQ.ex rfl (fun w H => (by first | exact Ex.lenR Try.runUnderlying28 rfl | exact Ex.lenIn Try.runUnderlying28 rfl | exact Ex.lenL Try.runUnderlying28 rfl | exact Ex.len rfl Try.runUnderlying28 rfl)) rfl ?_
    refine OQ.ex rfl (fun w H => (Ex.lss rfl rfl)) rfl ?_
    refine OQ.ex rfl (fun w H => (Ex.move rfl)) rfl ?_
    first | refine OQ.split_p (t := 31) rfl (fun htwo => ?_) (fun hone => ?_) | refine OQ.split (t := 31) rfl (fun htwo => ?_) (fun hone => ?_)
    · refine OQ.exT rfl rfl rfl (fun w H => (Ex.move rfl)) rfl ?_
      refine OQ.exT rfl rfl rfl (fun w H => (Ex.move rfl)) rfl ?_
      refine OQ.exT rfl rfl rfl (fun w H => (by first | exact Ex.nilPtr rfl | exact Ex.nilFunc rfl | exact Ex.nilYield rfl)) rfl ?_
      refine OQ.exT rfl rfl rfl (fun w H => (by first | exact Ex.field0 fld126_0 rfl | exact Ex.field fld126_0 rfl | exact Ex.fieldS fld126_0 rfl)) rfl ?_
      refine OQ.exT rfl rfl rfl (fun w H => (by first | exact Ex.loadP Try.isAgg28 rfl | exact Ex.loadR Try.isAgg28 rfl | exact Ex.loadIn1 Try.isAgg28 rfl (Holds.to (by assumption)))) rfl ?_
      refine OQ.exT rfl rfl rfl (fun w H => (Ex.move rfl)) rfl ?_
      refine OQ.exT rfl rfl rfl (fun w H => (by first | exact Ex.addI rfl rfl | exact Ex.add rfl rfl rfl)) rfl ?_
      refine OQ.exT rfl rfl rfl (fun w H => (by first | exact Ex.idxR Try.runUnderlying28 Try.sizeOf3 rfl rfl | exact Ex.idxIn Try.runUnderlying28 Try.sizeOf3 rfl rfl | exact Ex.idxS Try.runUnderlying28 Try.sizeOf3 rfl rfl | exact Ex.idx Try.runUnderlying28 Try.sizeOf3 rfl rfl (by omega) (by omega))) rfl ?_
      refine OQ.exT rfl rfl rfl (fun w H => (by first | exact Ex.loadP Try.isAgg3 rfl | exact Ex.loadR Try.isAgg3 rfl | exact Ex.loadIn1 Try.isAgg3 rfl (Holds.to (by assumption)))) rfl ?_
      refine OQ.exT rfl rfl rfl (fun w H => (Ex.move rfl)) rfl ?_
      refine OQ.exT rfl rfl rfl (fun w H => (by first | exact Ex.nilPtr rfl | exact Ex.nilFunc rfl | exact Ex.nilYield rfl)) rfl ?_
      refine OQ.exT rfl rfl rfl (fun w H => (by first | exact Ex.field0 fld126_0 rfl | exact Ex.field fld126_0 rfl | exact Ex.fieldS fld126_0 rfl)) rfl ?_
      refine OQ.exT rfl rfl rfl (fun w H => (by first | exact Ex.loadP Try.isAgg28 rfl | exact Ex.loadR Try.isAgg28 rfl | exact Ex.loadIn1 Try.isAgg28 rfl (Holds.to (by assumption)))) rfl ?_
      refine OQ.exT rfl rfl rfl (fun w H => (Ex.move rfl)) rfl ?_
      refine OQ.exT rfl rfl rfl (fun w H => (by first | exact Ex.idxR Try.runUnderlying28 Try.sizeOf3 rfl rfl | exact Ex.idxIn Try.runUnderlying28 Try.sizeOf3 rfl rfl | exact Ex.idxS Try.runUnderlying28 Try.sizeOf3 rfl rfl | exact Ex.idx Try.runUnderlying28 Try.sizeOf3 rfl rfl (by omega) (by omega))) rfl ?_
      refine OQ.exT rfl rfl rfl (fun w H => (by first | exact Ex.loadP Try.isAgg3 rfl | exact Ex.loadR Try.isAgg3 rfl | exact Ex.loadIn1 Try.isAgg3 rfl (Holds.to (by assumption)))) rfl ?_
      refine OQ.step rfl ?_
      refine O.guard_t rfl rfl ?_
      refine O.callF Try.call113 rfl rfl (CT.mono (aheadI_ct (tv := tv) (pv := pv) (qv := qv) (t := ta) (pl := pa) (pr := pr) (n2 (by omega)) n1 ((hpOI_open (h := h) (tv := tv) (pv := pv) (qv := qv) (t := ta) (pl := pa) (pr := pr)).2 (Holds.to (by assumption)))) ?_)
      rintro _ w ⟨rfl, H⟩
      have H := hpOI_open.1 H
      refine O.thenNil ⟨(by first | exact Holds.to (by assumption) | assumption), ?_⟩
      refine OQ.ex rfl (fun w H => (Ex.pick_t rfl rfl)) rfl ?_
      refine OQ.done ?_
      refine hK6 _ _ _ ?_
      first | refine W.cond_p rfl (fun hah => ?_) (fun hna => ?_) | refine W.cond_b rfl (fun hah => ?_) (fun hna => ?_)
      · refine W.region ?_
        have hc2 : 2 * q + 2 < T.length := by omega
        rw [g1, g2 hc2] at hah
        have hmin : ∀ i, 0 < i → i < T.length → (i - 1) / 2 = q → ¬ kI pr (T.getD i default) (T.getD (2 * q + 2) default) := fun i h0 h1 h2 => by
          obtain rfl | rfl : i = 2 * q + 1 ∨ i = 2 * q + 2 := by omega
          · exact so.asy hah
          · exact so.irr _
        have hval : 2 * (q : Int) + 1 + 1 = ((2 * q + 2 : Nat) : Int) := by omega
        have hcT : 2 * q + 2 < T.length := hc2
        have hcp : (2 * q + 2 - 1) / 2 = q := by omega
        have hc0 : 0 < 2 * q + 2 := by omega
        obtain ⟨c, hcd⟩ : ∃ c, c = 2 * q + 2 := ⟨_, rfl⟩
        rw [← hcd] at hmin hval hcT hcp hc0
        refine O.ex (Ex.move rfl) rfl ?_
        refine O.ex (by first | exact Ex.addI rfl rfl | exact Ex.add rfl rfl rfl) rfl ?_
        refine O.ex (Ex.assign rfl) rfl ?_
        rw [hval]
        refine O.nil ?_
        refine hK5 _ _ _ ?_
        refine W.seq (fun K7 hK7 => ?_)
        refine W.seq (fun K8 hK8 => ?_)
        refine W.region ?_
        first
        | have hdone : 0 < c := hc0
        | (have hmin : ∀ i, 0 < i → i < T.length → (i - 1) / 2 = q → ¬ kI pr (T.getD i default) (T.getD (2 * q + 1) default) := fun i h0 h1 h2 => by
             by_cases e : i = 2 * q + 1
             · subst e; exact so.irr _
             · obtain rfl : i = 2 * q + 2 := by omega
               first
               | (rw [g1, g2 h1] at hna; exact hna)
               | exact absurd h1 (by omega)
           have hval : 2 * (q : Int) + 1 = ((2 * q + 1 : Nat) : Int) := by omega
           have hcT : 2 * q + 1 < T.length := hc1
           have hcp : (2 * q + 1 - 1) / 2 = q := by omega
           have hc0 : 0 < 2 * q + 1 := by omega
           rw [hval]
           revert hmin hcT hcp hc0
           generalize 2 * q + 1 = c
           intro hmin hcT hcp hc0
           have hdone : 0 < c := hc0)
        have hcq : c ≠ q := by omega
        have hgc := hm.st c hcT hcq
        have hcn := hm.pi.lt c hcT
        have hci : (0 : Int) ≤ (c : Int) := by omega
        refine O.ex (Ex.move rfl) rfl ?_
        refine O.ex (Ex.move rfl) rfl ?_
        refine O.ex (by first | exact Ex.nilPtr rfl | exact Ex.nilFunc rfl | exact Ex.nilYield rfl) rfl ?_
        refine O.ex (by first | exact Ex.field0 fld126_0 rfl | exact Ex.field fld126_0 rfl | exact Ex.fieldS fld126_0 rfl) rfl ?_
        refine O.ex (by first | exact Ex.loadP Try.isAgg28 rfl | exact Ex.loadR Try.isAgg28 rfl | exact Ex.loadIn1 Try.isAgg28 rfl (Holds.to (by assumption))) rfl ?_
        refine O.ex (Ex.move rfl) rfl ?_
        refine O.ex (by first | exact Ex.idxR Try.runUnderlying28 Try.sizeOf3 rfl rfl | exact Ex.idxIn Try.runUnderlying28 Try.sizeOf3 rfl rfl | exact Ex.idxS Try.runUnderlying28 Try.sizeOf3 rfl rfl | exact Ex.idx Try.runUnderlying28 Try.sizeOf3 rfl rfl (by omega) (by omega)) rfl ?_
        refine O.ex (by first | exact Ex.loadP Try.isAgg3 rfl | exact Ex.loadR Try.isAgg3 rfl | exact Ex.loadIn1 Try.isAgg3 rfl (Holds.to (by assumption))) rfl ?_
        rw [show ta.getD ((c : Nat) : Int).toNat default = T.getD c default from hgc]
        refine O.ex (Ex.move rfl) rfl ?_
        refine O.callF Try.call113 rfl rfl (CT.mono (aheadI_ct (tv := tv) (pv := pv) (qv := qv) (t := ta) (pl := pa) (pr := pr) (by omega) (by omega) ((hpOI_open (h := h) (tv := tv) (pv := pv) (qv := qv) (t := ta) (pl := pa) (pr := pr)).2 (Holds.to (by assumption)))) ?_)
        rintro _ w ⟨rfl, H⟩
        have H := hpOI_open.1 H
        refine O.ex (by first | exact Ex.notD rfl | exact Ex.not rfl) rfl ?_
        refine O.nil ?_
        refine hK8 _ _ _ ?_
        first | refine W.cond_p rfl (fun hstop => ?_) (fun hgo => ?_) | refine W.cond_b rfl (fun hstop => ?_) (fun hgo => ?_)
        · refine W.exit ?_
          refine hK1 _ _ _ ?_
          refine W.region ?_
          have H := (hpOI_open (h := h) (tv := tv) (pv := pv) (qv := qv) (t := ta) (pl := pa) (pr := pr)).2 (Holds.to (by first | exact hpOI_open.1 (Holds.to (by assumption)) | assumption))
          refine O.ex (Ex.move rfl) rfl ?_
          refine O.ex (Ex.move rfl) rfl ?_
          refine O.ex (Ex.move rfl) rfl ?_
          refine O.callF Try.call95 rfl rfl (CT.mono (layI_ct (tv := tv) (pv := pv) (qv := qv) (t := ta) (pl := pa) (pr := pr) (by omega) (by omega) (Holds.to (by assumption))) ?_)
          rintro _ w ⟨-, H⟩
          rw [hm.done.1, hm.done.2] at H
          refine O.nil ?_
          try dsimp only [thenQ, blockQ, retQ]
          first | refine ⟨_, rfl, ?_⟩ | (refine retD_mark ?_; intro w H; refine ⟨_, rfl, ?_⟩) | (refine retD_mark2 ?_; intro w H; refine ⟨_, rfl, ?_⟩)
          refine ⟨rfl, T, PL, hm.pi, hdi.done fun i h0 h1 h2 => ?_, hmem, Holds.to (by assumption)⟩
          first
          | exact so.le_tr (by rw [hm.gp]; exact hstop) (hmin i h0 h1 h2)
          | exact absurd h1 (by omega)
        · refine W.skip ?_
          refine hK7 _ _ _ ?_
          refine W.seq (fun K9 hK9 => ?_)
          refine W.region ?_
          refine O.ex (Ex.move rfl) rfl ?_
          refine O.ex (Ex.move rfl) rfl ?_
          refine O.ex (by first | exact Ex.nilPtr rfl | exact Ex.nilFunc rfl | exact Ex.nilYield rfl) rfl ?_
          refine O.ex (by first | exact Ex.field0 fld126_0 rfl | exact Ex.field fld126_0 rfl | exact Ex.fieldS fld126_0 rfl) rfl ?_
          refine O.ex (by first | exact Ex.loadP Try.isAgg28 rfl | exact Ex.loadR Try.isAgg28 rfl | exact Ex.loadIn1 Try.isAgg28 rfl (Holds.to (by assumption))) rfl ?_
          refine O.ex (Ex.move rfl) rfl ?_
          refine O.ex (by first | exact Ex.idxR Try.runUnderlying28 Try.sizeOf3 rfl rfl | exact Ex.idxIn Try.runUnderlying28 Try.sizeOf3 rfl rfl | exact Ex.idxS Try.runUnderlying28 Try.sizeOf3 rfl rfl | exact Ex.idx Try.runUnderlying28 Try.sizeOf3 rfl rfl (by omega) (by omega)) rfl ?_
          refine O.ex (by first | exact Ex.loadP Try.isAgg3 rfl | exact Ex.loadR Try.isAgg3 rfl | exact Ex.loadIn1 Try.isAgg3 rfl (Holds.to (by assumption))) rfl ?_
          rw [show ta.getD ((c : Nat) : Int).toNat default = T.getD c default from hgc]
          refine O.ex (Ex.move rfl) rfl ?_
          refine O.callF Try.call95 rfl rfl (CT.mono (layI_ct (tv := tv) (pv := pv) (qv := qv) (t := ta) (pl := pa) (pr := pr) (by omega) (by omega) ((hpOI_open (h := h) (tv := tv) (pv := pv) (qv := qv) (t := ta) (pl := pa) (pr := pr)).2 (Holds.to (by assumption)))) ?_)
          rintro _ w ⟨-, H⟩
          refine O.nil ?_
          refine hK9 _ _ _ ?_
          refine W.region ?_
          refine O.ex (Ex.move rfl) rfl ?_
          refine O.ex (Ex.assign rfl) rfl ?_
          refine O.nil ?_
          have hmv := hm.move hcT (Ne.symm hcq)
          have hah2 : kI pr (T.getD c default) (T.getD q default) := by rw [hm.gp]; exact Decidable.not_not.1 hgo
          have hst := hdi.step so hc0 hcT hcp hah2 hmin
          exact ⟨c, ⟨rfl, rfl, rfl, trivial⟩, ⟨rfl, _, _, _, _, hmv, hst, fun y => (swap_mem hq hcT y).trans (hmem y), Holds.to (by assumption)⟩, by omega⟩
      · refine W.skip ?_
        refine hK5 _ _ _ ?_
        refine W.seq (fun K10 hK10 => ?_)
        refine W.seq (fun K11 hK11 => ?_)
        refine W.region ?_
        first
        | have hdone : 0 < c := hc0
        | (have hmin : ∀ i, 0 < i → i < T.length → (i - 1) / 2 = q → ¬ kI pr (T.getD i default) (T.getD (2 * q + 1) default) := fun i h0 h1 h2 => by
             by_cases e : i = 2 * q + 1
             · subst e; exact so.irr _
             · obtain rfl : i = 2 * q + 2 := by omega
               first
               | (rw [g1, g2 h1] at hna; exact hna)
               | exact absurd h1 (by omega)
           have hval : 2 * (q : Int) + 1 = ((2 * q + 1 : Nat) : Int) := by omega
           have hcT : 2 * q + 1 < T.length := hc1
           have hcp : (2 * q + 1 - 1) / 2 = q := by omega
           have hc0 : 0 < 2 * q + 1 := by omega
           rw [hval]
           revert hmin hcT hcp hc0
           generalize 2 * q + 1 = c
           intro hmin hcT hcp hc0
           have hdone : 0 < c := hc0)
        have hcq : c ≠ q := by omega
        have hgc := hm.st c hcT hcq
        have hcn := hm.pi.lt c hcT
        have hci : (0 : Int) ≤ (c : Int) := by omega
        refine O.ex (Ex.move rfl) rfl ?_
        refine O.ex (Ex.move rfl) rfl ?_
        refine O.ex (by first | exact Ex.nilPtr rfl | exact Ex.nilFunc rfl | exact Ex.nilYield rfl) rfl ?_
        refine O.ex (by first | exact Ex.field0 fld126_0 rfl | exact Ex.field fld126_0 rfl | exact Ex.fieldS fld126_0 rfl) rfl ?_
        refine O.ex (by first | exact Ex.loadP Try.isAgg28 rfl | exact Ex.loadR Try.isAgg28 rfl | exact Ex.loadIn1 Try.isAgg28 rfl (Holds.to (by assumption))) rfl ?_
        refine O.ex (Ex.move rfl) rfl ?_
        refine O.ex (by first | exact Ex.idxR Try.runUnderlying28 Try.sizeOf3 rfl rfl | exact Ex.idxIn Try.runUnderlying28 Try.sizeOf3 rfl rfl | exact Ex.idxS Try.runUnderlying28 Try.sizeOf3 rfl rfl | exact Ex.idx Try.runUnderlying28 Try.sizeOf3 rfl rfl (by omega) (by omega)) rfl ?_
        refine O.ex (by first | exact Ex.loadP Try.isAgg3 rfl | exact Ex.loadR Try.isAgg3 rfl | exact Ex.loadIn1 Try.isAgg3 rfl (Holds.to (by assumption))) rfl ?_
        rw [show ta.getD ((c : Nat) : Int).toNat default = T.getD c default from hgc]
        refine O.ex (Ex.move rfl) rfl ?_
        refine O.callF Try.call113 rfl rfl (CT.mono (aheadI_ct (tv := tv) (pv := pv) (qv := qv) (t := ta) (pl := pa) (pr := pr) (by omega) (by omega) ((hpOI_open (h := h) (tv := tv) (pv := pv) (qv := qv) (t := ta) (pl := pa) (pr := pr)).2 (Holds.to (by assumption)))) ?_)
        rintro _ w ⟨rfl, H⟩
        have H := hpOI_open.1 H
        refine O.ex (by first | exact Ex.notD rfl | exact Ex.not rfl) rfl ?_
        refine O.nil ?_
        refine hK11 _ _ _ ?_
        first | refine W.cond_p rfl (fun hstop => ?_) (fun hgo => ?_) | refine W.cond_b rfl (fun hstop => ?_) (fun hgo => ?_)
        · refine W.exit ?_
          refine hK1 _ _ _ ?_
          refine W.region ?_
          have H := (hpOI_open (h := h) (tv := tv) (pv := pv) (qv := qv) (t := ta) (pl := pa) (pr := pr)).2 (Holds.to (by first | exact hpOI_open.1 (Holds.to (by assumption)) | assumption))
          refine O.ex (Ex.move rfl) rfl ?_
          refine O.ex (Ex.move rfl) rfl ?_
          refine O.ex (Ex.move rfl) rfl ?_
          refine O.callF Try.call95 rfl rfl (CT.mono (layI_ct (tv := tv) (pv := pv) (qv := qv) (t := ta) (pl := pa) (pr := pr) (by omega) (by omega) (Holds.to (by assumption))) ?_)
          rintro _ w ⟨-, H⟩
          rw [hm.done.1, hm.done.2] at H
          refine O.nil ?_
          try dsimp only [thenQ, blockQ, retQ]
          first | refine ⟨_, rfl, ?_⟩ | (refine retD_mark ?_; intro w H; refine ⟨_, rfl, ?_⟩) | (refine retD_mark2 ?_; intro w H; refine ⟨_, rfl, ?_⟩)
          refine ⟨rfl, T, PL, hm.pi, hdi.done fun i h0 h1 h2 => ?_, hmem, Holds.to (by assumption)⟩
          first
          | exact so.le_tr (by rw [hm.gp]; exact hstop) (hmin i h0 h1 h2)
          | exact absurd h1 (by omega)
        · refine W.skip ?_
          refine hK10 _ _ _ ?_
          refine W.seq (fun K12 hK12 => ?_)
          refine W.region ?_
          refine O.ex (Ex.move rfl) rfl ?_
          refine O.ex (Ex.move rfl) rfl ?_
          refine O.ex (by first | exact Ex.nilPtr rfl | exact Ex.nilFunc rfl | exact Ex.nilYield rfl) rfl ?_
          refine O.ex (by first | exact Ex.field0 fld126_0 rfl | exact Ex.field fld126_0 rfl | exact Ex.fieldS fld126_0 rfl) rfl ?_
          refine O.ex (by first | exact Ex.loadP Try.isAgg28 rfl | exact Ex.loadR Try.isAgg28 rfl | exact Ex.loadIn1 Try.isAgg28 rfl (Holds.to (by assumption))) rfl ?_
          refine O.ex (Ex.move rfl) rfl ?_
          refine O.ex (by first | exact Ex.idxR Try.runUnderlying28 Try.sizeOf3 rfl rfl | exact Ex.idxIn Try.runUnderlying28 Try.sizeOf3 rfl rfl | exact Ex.idxS Try.runUnderlying28 Try.sizeOf3 rfl rfl | exact Ex.idx Try.runUnderlying28 Try.sizeOf3 rfl rfl (by omega) (by omega)) rfl ?_
          refine O.ex (by first | exact Ex.loadP Try.isAgg3 rfl | exact Ex.loadR Try.isAgg3 rfl | exact Ex.loadIn1 Try.isAgg3 rfl (Holds.to (by assumption))) rfl ?_
          rw [show ta.getD ((c : Nat) : Int).toNat default = T.getD c default from hgc]
          refine O.ex (Ex.move rfl) rfl ?_
          refine O.callF Try.call95 rfl rfl (CT.mono (layI_ct (tv := tv) (pv := pv) (qv := qv) (t := ta) (pl := pa) (pr := pr) (by omega) (by omega) ((hpOI_open (h := h) (tv := tv) (pv := pv) (qv := qv) (t := ta) (pl := pa) (pr := pr)).2 (Holds.to (by assumption)))) ?_)
          rintro _ w ⟨-, H⟩
          refine O.nil ?_
          refine hK12 _ _ _ ?_
          refine W.region ?_
          refine O.ex (Ex.move rfl) rfl ?_
          refine O.ex (Ex.assign rfl) rfl ?_
          refine O.nil ?_
          have hmv := hm.move hcT (Ne.symm hcq)
          have hah2 : kI pr (T.getD c default) (T.getD q default) := by rw [hm.gp]; exact Decidable.not_not.1 hgo
          have hst := hdi.step so hc0 hcT hcp hah2 hmin
          exact ⟨c, ⟨rfl, rfl, rfl, trivial⟩, ⟨rfl, _, _, _, _, hmv, hst, fun y => (swap_mem hq hcT y).trans (hmem y), Holds.to (by assumption)⟩, by omega⟩
    · refine OQ.exF rfl rfl rfl rfl rfl ?_
      refine OQ.exF rfl rfl rfl rfl rfl ?_
      refine OQ.exF rfl rfl rfl rfl rfl ?_
      refine OQ.exF rfl rfl rfl rfl rfl ?_
      refine OQ.exF rfl rfl rfl rfl rfl ?_
      refine OQ.exF rfl rfl rfl rfl rfl ?_
      refine OQ.exF rfl rfl rfl rfl rfl ?_
      refine OQ.exF rfl rfl rfl rfl rfl ?_
      refine OQ.exF rfl rfl rfl rfl rfl ?_
      refine OQ.exF rfl rfl rfl rfl rfl ?_
      refine OQ.exF rfl rfl rfl rfl rfl ?_
      refine OQ.exF rfl rfl rfl rfl rfl ?_
      refine OQ.exF rfl rfl rfl rfl rfl ?_
      refine OQ.exF rfl rfl rfl rfl rfl ?_
      refine OQ.exF rfl rfl rfl rfl rfl ?_
      refine OQ.exF rfl rfl rfl rfl rfl ?_
      refine OQ.step rfl ?_
      refine O.guard_f rfl rfl rfl rfl ?_
      refine O.thenNil ⟨(by first | exact Holds.to (by assumption) | assumption), ?_⟩
      refine OQ.ex rfl (fun w H => (Ex.pick_f rfl rfl)) rfl ?_
      refine OQ.done ?_
      refine hK6 _ _ _ ?_
      refine W.cond_f rfl ?_
      refine W.skip ?_
      refine hK5 _ _ _ ?_
      refine W.seq (fun K13 hK13 => ?_)
      refine W.seq (fun K14 hK14 => ?_)
      refine W.region ?_
      first
      | have hdone : 0 < c := hc0
      | (have hmin : ∀ i, 0 < i → i < T.length → (i - 1) / 2 = q → ¬ kI pr (T.getD i default) (T.getD (2 * q + 1) default) := fun i h0 h1 h2 => by
           by_cases e : i = 2 * q + 1
           · subst e; exact so.irr _
           · obtain rfl : i = 2 * q + 2 := by omega
             first
             | (rw [g1, g2 h1] at hna; exact hna)
             | exact absurd h1 (by omega)
         have hval : 2 * (q : Int) + 1 = ((2 * q + 1 : Nat) : Int) := by omega
         have hcT : 2 * q + 1 < T.length := hc1
         have hcp : (2 * q + 1 - 1) / 2 = q := by omega
         have hc0 : 0 < 2 * q + 1 := by omega
         rw [hval]
         revert hmin hcT hcp hc0
         generalize 2 * q + 1 = c
         intro hmin hcT hcp hc0
         have hdone : 0 < c := hc0)
      have hcq : c ≠ q := by omega
      have hgc := hm.st c hcT hcq
      have hcn := hm.pi.lt c hcT
      have hci : (0 : Int) ≤ (c : Int) := by omega
      refine O.ex (Ex.move rfl) rfl ?_
      refine O.ex (Ex.move rfl) rfl ?_
      refine O.ex (by first | exact Ex.nilPtr rfl | exact Ex.nilFunc rfl | exact Ex.nilYield rfl) rfl ?_
      refine O.ex (by first | exact Ex.field0 fld126_0 rfl | exact Ex.field fld126_0 rfl | exact Ex.fieldS fld126_0 rfl) rfl ?_
      refine O.ex (by first | exact Ex.loadP Try.isAgg28 rfl | exact Ex.loadR Try.isAgg28 rfl | exact Ex.loadIn1 Try.isAgg28 rfl (Holds.to (by assumption))) rfl ?_
      refine O.ex (Ex.move rfl) rfl ?_
      refine O.ex (by first | exact Ex.idxR Try.runUnderlying28 Try.sizeOf3 rfl rfl | exact Ex.idxIn Try.runUnderlying28 Try.sizeOf3 rfl rfl | exact Ex.idxS Try.runUnderlying28 Try.sizeOf3 rfl rfl | exact Ex.idx Try.runUnderlying28 Try.sizeOf3 rfl rfl (by omega) (by omega)) rfl ?_
      refine O.ex (by first | exact Ex.loadP Try.isAgg3 rfl | exact Ex.loadR Try.isAgg3 rfl | exact Ex.loadIn1 Try.isAgg3 rfl (Holds.to (by assumption))) rfl ?_
      rw [show ta.getD ((c : Nat) : Int).toNat default = T.getD c default from hgc]
      refine O.ex (Ex.move rfl) rfl ?_
      refine O.callF Try.call113 rfl rfl (CT.mono (aheadI_ct (tv := tv) (pv := pv) (qv := qv) (t := ta) (pl := pa) (pr := pr) (by omega) (by omega) ((hpOI_open (h := h) (tv := tv) (pv := pv) (qv := qv) (t := ta) (pl := pa) (pr := pr)).2 (Holds.to (by assumption)))) ?_)
      rintro _ w ⟨rfl, H⟩
      have H := hpOI_open.1 H
      refine O.ex (by first | exact Ex.notD rfl | exact Ex.not rfl) rfl ?_
      refine O.nil ?_
      refine hK14 _ _ _ ?_
      first | refine W.cond_p rfl (fun hstop => ?_) (fun hgo => ?_) | refine W.cond_b rfl (fun hstop => ?_) (fun hgo => ?_)
      · refine W.exit ?_
        refine hK1 _ _ _ ?_
        refine W.region ?_
        have H := (hpOI_open (h := h) (tv := tv) (pv := pv) (qv := qv) (t := ta) (pl := pa) (pr := pr)).2 (Holds.to (by first | exact hpOI_open.1 (Holds.to (by assumption)) | assumption))
        refine O.ex (Ex.move rfl) rfl ?_
        refine O.ex (Ex.move rfl) rfl ?_
        refine O.ex (Ex.move rfl) rfl ?_
        refine O.callF Try.call95 rfl rfl (CT.mono (layI_ct (tv := tv) (pv := pv) (qv := qv) (t := ta) (pl := pa) (pr := pr) (by omega) (by omega) (Holds.to (by assumption))) ?_)
        rintro _ w ⟨-, H⟩
        rw [hm.done.1, hm.done.2] at H
        refine O.nil ?_
        try dsimp only [thenQ, blockQ, retQ]
        first | refine ⟨_, rfl, ?_⟩ | (refine retD_mark ?_; intro w H; refine ⟨_, rfl, ?_⟩) | (refine retD_mark2 ?_; intro w H; refine ⟨_, rfl, ?_⟩)
        refine ⟨rfl, T, PL, hm.pi, hdi.done fun i h0 h1 h2 => ?_, hmem, Holds.to (by assumption)⟩
        first
        | exact so.le_tr (by rw [hm.gp]; exact hstop) (hmin i h0 h1 h2)
        | exact absurd h1 (by omega)
      · refine W.skip ?_
        refine hK13 _ _ _ ?_
        refine W.seq (fun K15 hK15 => ?_)
        refine W.region ?_
        refine O.ex (Ex.move rfl) rfl ?_
        refine O.ex (Ex.move rfl) rfl ?_
        refine O.ex (by first | exact Ex.nilPtr rfl | exact Ex.nilFunc rfl | exact Ex.nilYield rfl) rfl ?_
        refine O.ex (by first | exact Ex.field0 fld126_0 rfl | exact Ex.field fld126_0 rfl | exact Ex.fieldS fld126_0 rfl) rfl ?_
        refine O.ex (by first | exact Ex.loadP Try.isAgg28 rfl | exact Ex.loadR Try.isAgg28 rfl | exact Ex.loadIn1 Try.isAgg28 rfl (Holds.to (by assumption))) rfl ?_
        refine O.ex (Ex.move rfl) rfl ?_
        refine O.ex (by first | exact Ex.idxR Try.runUnderlying28 Try.sizeOf3 rfl rfl | exact Ex.idxIn Try.runUnderlying28 Try.sizeOf3 rfl rfl | exact Ex.idxS Try.runUnderlying28 Try.sizeOf3 rfl rfl | exact Ex.idx Try.runUnderlying28 Try.sizeOf3 rfl rfl (by omega) (by omega)) rfl ?_
        refine O.ex (by first | exact Ex.loadP Try.isAgg3 rfl | exact Ex.loadR Try.isAgg3 rfl | exact Ex.loadIn1 Try.isAgg3 rfl (Holds.to (by assumption))) rfl ?_
        rw [show ta.getD ((c : Nat) : Int).toNat default = T.getD c default from hgc]
        refine O.ex (Ex.move rfl) rfl ?_
        refine O.callF Try.call95 rfl rfl (CT.mono (layI_ct (tv := tv) (pv := pv) (qv := qv) (t := ta) (pl := pa) (pr := pr) (by omega) (by omega) ((hpOI_open (h := h) (tv := tv) (pv := pv) (qv := qv) (t := ta) (pl := pa) (pr := pr)).2 (Holds.to (by assumption)))) ?_)
        rintro _ w ⟨-, H⟩
        refine O.nil ?_
        refine hK15 _ _ _ ?_
        refine W.region ?_
        refine O.ex (Ex.move rfl) rfl ?_
        refine O.ex (Ex.assign rfl) rfl ?_
        refine O.nil ?_
        have hmv := hm.move hcT (Ne.symm hcq)
        have hah2 : kI pr (T.getD c default) (T.getD q default) := by rw [hm.gp]; exact Decidable.not_not.1 hgo
        have hst := hdi.step so hc0 hcT hcp hah2 hmin
        exact ⟨c, ⟨rfl, rfl, rfl, trivial⟩, ⟨rfl, _, _, _, _, hmv, hst, fun y => (swap_mem hq hcT y).trans (hmem y), Holds.to (by assumption)⟩, by omega⟩
end Go.Proofs.Ytliofdfhimmjmaa
