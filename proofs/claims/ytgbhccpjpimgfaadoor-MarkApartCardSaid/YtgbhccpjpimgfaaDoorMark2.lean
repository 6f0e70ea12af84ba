import Derived.Test.YtgbhccpjpimgfaaDoorRef18
import Derived.Test.YtgbhccpjpimgfaaDoorRrRow
namespace Go.Proofs.YtgbhccpjpimgfaaDoor
open Go.Rr Go Mq
set_option linter.unusedVariables false
theorem inS_setQ {rk : List Int} {s : Nat} (hr : RightP rk) (hs : SOk rk.length s) (v : Int) : inS (setQ rk s) v = hasV rk s v := by
  have h24 := hr.1
  unfold inS hasV
  by_cases h : 0 ≤ v ∧ v < 64
  · rw [decide_eq_true h, Bool.true_and, setQ_bit hr hs _ (by omega)]
    by_cases h2 : v < rk.length
    · rw [decide_eq_true (show v.toNat < rk.length by omega), decide_eq_true (show 0 ≤ v ∧ v < rk.length from ⟨h.1, h2⟩)]
    · rw [decide_eq_false (show ¬ v.toNat < rk.length by omega), decide_eq_false (show ¬ (0 ≤ v ∧ v < rk.length) from fun k => h2 k.2)]
  · rw [decide_eq_false h, decide_eq_false (show ¬ (0 ≤ v ∧ v < rk.length) from fun k => h ⟨k.1, by omega⟩)]; rfl
set_option maxHeartbeats 2000000 in
theorem alike18_ct {w w0 : World} {q r : Nat} {rk : List Int} {s : Nat} {L : List HProp} (hT : TabAt w0) (hr : RightP rk) (hs : SOk rk.length s) (H : Holds w (base w0 :: Mk q rk s :: Rq r rk s :: L)) :
    CT Tryd.prog 25 [.pointer (some ⟨q, 0, none⟩), .pointer (some ⟨r, 0, none⟩)] w fun u w' => u = .bool true ∧ Holds w' (base w0 :: Mk q rk s :: Rq r rk s :: L) := by
  have h24 := hr.1
  have hal : (alL rk s).length = (lst s).length := alL_len rk s
  have hpl : ((pop s : Nat) : Int) = ((alL rk s).length : Int) := by rw [hal, pop_len]
  have hA : s ≠ 0 ↔ (0 : Int) < ((alL rk s).length : Int) := by
    have := alL_zero hs
    constructor
    · intro h; have : (alL rk s).length ≠ 0 := fun e => h (this.1 e); omega
    · intro h e; have := this.2 e; omega
  refine CT.enter (N := 99) Tryd.func25 rfl rfl rfl rfl ?_
  refine W.seq (fun K0 hK0 => ?_)
  refine W.region ?_
  refine O.ex (Ex.assign rfl) rfl ?_
  refine O.nil ?_
  refine hK0 _ _ _ ?_
  refine W.seq (fun K1 hK1 => ?_)
  refine W.region ?_
  refine O.ex (Ex.move rfl) rfl ?_
  refine O.callF Tryd.call13 rfl rfl (CT.mono (rqAll_ct hr hs (Holds.to (by assumption))) ?_)
  rintro _ w ⟨hva, H⟩
  rename_i va
  refine O.ex (Ex.assign rfl) rfl ?_
  refine O.nil ?_
  refine hK1 _ _ _ ?_
  refine W.seq (fun K2 hK2 => ?_)
  refine W.region ?_
  refine O.ex (Ex.move rfl) rfl ?_
  refine O.callF Tryd.call27 rfl rfl (CT.mono (qFirst_ct hT hr hs (Holds.to (by assumption))) ?_)
  rintro _ w ⟨rfl, H⟩
  refine O.ex (Ex.move rfl) rfl ?_
  refine O.ex (Ex.extract rfl rfl) rfl ?_
  refine O.ex (Ex.extract rfl rfl) rfl ?_
  refine O.ex (Ex.assign rfl) rfl ?_
  refine O.ex (Ex.assign rfl) rfl ?_
  refine O.nil ?_
  refine hK2 _ _ _ ?_
  refine W.seq (fun K3 hK3 => ?_)
  refine W.seq (fun K4 hK4 => ?_)
  refine W.region ?_
  rcases Classical.em (s = 0) with h0 | h0
  · have hfr : frs rk s = 0 := by unfold frs; rw [if_pos h0]
    refine O.ex (Ex.move rfl) rfl ?_
    refine O.ex (Ex.move rfl) rfl ?_
    refine O.ex (by first | exact Ex.lenR Tryd.runUnderlying22 rfl | exact Ex.lenIn Tryd.runUnderlying22 rfl | exact Ex.lenL Tryd.runUnderlying22 rfl | exact Ex.len rfl Tryd.runUnderlying22 rfl) rfl ?_
    refine O.ex (Ex.gtr rfl rfl) rfl ?_
    refine O.ex (Ex.neqB Tryd.runUnderlying4 rfl rfl) rfl ?_
    refine O.ex (Ex.move rfl) rfl ?_
    refine O.known (t := 22) (c := false) rfl (by first | rfl | exact decide_eq_true (fun h => h h0) | exact decide_eq_false (fun h => h (decide_eq_decide.2 hA)) | exact decide_eq_false (fun h => h h0) | (rw [decide_eq_false (fun h => h h0)]; rfl) | exact decide_eq_true h0 | (rw [decide_eq_true h0]; rfl) | exact decide_eq_false (fun h => h hfr) | exact decide_eq_false (fun h => h hpl) | exact decide_eq_false (fun h => h rfl) | exact decide_eq_false (fun h => h hhv) | exact decide_eq_false (fun h => h hsv)) ?_
    refine O.guard_t rfl rfl ?_
    refine O.ex (Ex.move rfl) rfl ?_
    refine O.guard_t rfl rfl ?_
    refine O.ex (Ex.move rfl) rfl ?_
    refine O.known (t := 24) (c := false) rfl (by first | rfl | exact decide_eq_true (fun h => h h0) | exact decide_eq_false (fun h => h (decide_eq_decide.2 hA)) | exact decide_eq_false (fun h => h h0) | (rw [decide_eq_false (fun h => h h0)]; rfl) | exact decide_eq_true h0 | (rw [decide_eq_true h0]; rfl) | exact decide_eq_false (fun h => h hfr) | exact decide_eq_false (fun h => h hpl) | exact decide_eq_false (fun h => h rfl) | exact decide_eq_false (fun h => h hhv) | exact decide_eq_false (fun h => h hsv)) ?_
    refine O.guard_f rfl rfl rfl rfl ?_
    refine O.guard_f rfl rfl rfl rfl ?_
    refine O.guard_f rfl rfl rfl rfl ?_
    refine O.guard_f rfl rfl rfl rfl ?_
    refine O.guard_f rfl rfl rfl rfl ?_
    refine O.guard_t rfl rfl ?_
    refine O.ex (Ex.pick_f rfl rfl) rfl ?_
    refine O.ex (Ex.pick_f rfl rfl) rfl ?_
    refine O.ex (Ex.move rfl) rfl ?_
    refine O.guard_t rfl rfl ?_
    refine O.ex (Ex.move rfl) rfl ?_
    refine O.guard_t rfl rfl ?_
    refine O.ex (by first | exact Ex.notD rfl | exact Ex.not rfl) rfl ?_
    refine O.guard_t rfl rfl ?_
    refine O.ex (Ex.move rfl) rfl ?_
    refine O.known (t := 35) (c := true) rfl (by first | rfl | exact decide_eq_true (fun h => h h0) | exact decide_eq_false (fun h => h (decide_eq_decide.2 hA)) | exact decide_eq_false (fun h => h h0) | (rw [decide_eq_false (fun h => h h0)]; rfl) | exact decide_eq_true h0 | (rw [decide_eq_true h0]; rfl) | exact decide_eq_false (fun h => h hfr) | exact decide_eq_false (fun h => h hpl) | exact decide_eq_false (fun h => h rfl) | exact decide_eq_false (fun h => h hhv) | exact decide_eq_false (fun h => h hsv)) ?_
    refine O.guard_t rfl rfl ?_
    refine O.ex (Ex.move rfl) rfl ?_
    refine O.guard_t rfl rfl ?_
    refine O.ex (Ex.neqI rfl rfl) rfl ?_
    refine O.guard_t rfl rfl ?_
    refine O.ex (Ex.pick_t rfl rfl) rfl ?_
    refine O.ex (Ex.pick_f rfl rfl) rfl ?_
    refine O.ex (Ex.move rfl) rfl ?_
    refine O.known (t := 40) (c := false) rfl (by first | rfl | exact decide_eq_true (fun h => h h0) | exact decide_eq_false (fun h => h (decide_eq_decide.2 hA)) | exact decide_eq_false (fun h => h h0) | (rw [decide_eq_false (fun h => h h0)]; rfl) | exact decide_eq_true h0 | (rw [decide_eq_true h0]; rfl) | exact decide_eq_false (fun h => h hfr) | exact decide_eq_false (fun h => h hpl) | exact decide_eq_false (fun h => h rfl) | exact decide_eq_false (fun h => h hhv) | exact decide_eq_false (fun h => h hsv)) ?_
    refine O.guard_t rfl rfl ?_
    refine O.ex (Ex.move rfl) rfl ?_
    refine O.guard_t rfl rfl ?_
    refine O.callF Tryd.call16 rfl rfl (CT.mono (qLen_ct (rk := rk) hs.1 (Holds.to (by assumption))) ?_)
    rintro _ w ⟨rfl, H⟩
    refine O.guard_t rfl rfl ?_
    refine O.ex (Ex.move rfl) rfl ?_
    refine O.guard_t rfl rfl ?_
    refine O.ex (by first | exact Ex.lenR Tryd.runUnderlying22 rfl | exact Ex.lenIn Tryd.runUnderlying22 rfl | exact Ex.lenL Tryd.runUnderlying22 rfl | exact Ex.len rfl Tryd.runUnderlying22 rfl) rfl ?_
    refine O.guard_t rfl rfl ?_
    refine O.ex (Ex.neqI rfl rfl) rfl ?_
    refine O.ex (Ex.pick_f rfl rfl) rfl ?_
    refine O.ex (Ex.move rfl) rfl ?_
    refine O.known (t := 47) (c := false) rfl (by first | rfl | exact decide_eq_true (fun h => h h0) | exact decide_eq_false (fun h => h (decide_eq_decide.2 hA)) | exact decide_eq_false (fun h => h h0) | (rw [decide_eq_false (fun h => h h0)]; rfl) | exact decide_eq_true h0 | (rw [decide_eq_true h0]; rfl) | exact decide_eq_false (fun h => h hfr) | exact decide_eq_false (fun h => h hpl) | exact decide_eq_false (fun h => h rfl) | exact decide_eq_false (fun h => h hhv) | exact decide_eq_false (fun h => h hsv)) ?_
    refine O.guard_t rfl rfl ?_
    refine O.ex (Ex.move rfl) rfl ?_
    refine O.guard_t rfl rfl ?_
    refine O.callF Tryd.call17 rfl rfl (CT.mono (qFloor_ct (rk := rk) hT hs.1 (Holds.to (by assumption))) ?_)
    rintro _ w ⟨rfl, H⟩
    refine O.guard_t rfl rfl ?_
    refine O.ex (Ex.move rfl) rfl ?_
    refine O.guard_t rfl rfl ?_
    refine O.callF Tryd.call41 rfl rfl (CT.mono (rqFloor_ct (rk := rk) hr hs (Holds.to (by assumption))) ?_)
    rintro _ w ⟨rfl, H⟩
    refine O.guard_t rfl rfl ?_
    refine O.ex (Ex.neqI rfl rfl) rfl ?_
    refine O.ex (Ex.pick_f rfl rfl) rfl ?_
    refine O.nil ?_
    refine hK4 _ _ _ ?_
    refine W.known_f rfl (by first | rfl | exact decide_eq_true (fun h => h h0) | exact decide_eq_false (fun h => h (decide_eq_decide.2 hA)) | exact decide_eq_false (fun h => h h0) | (rw [decide_eq_false (fun h => h h0)]; rfl) | exact decide_eq_true h0 | (rw [decide_eq_true h0]; rfl) | exact decide_eq_false (fun h => h hfr) | exact decide_eq_false (fun h => h hpl) | exact decide_eq_false (fun h => h rfl) | exact decide_eq_false (fun h => h hhv) | exact decide_eq_false (fun h => h hsv)) ?_
    refine W.skip ?_
    refine hK3 _ _ _ ?_
    refine W.seq (fun K5 hK5 => ?_)
    refine W.seq (fun K6 hK6 => ?_)
    refine W.region ?_
    refine O.ex (Ex.assign rfl) rfl ?_
    refine O.nil ?_
    refine hK6 _ _ _ ?_
    refine W.block ?_
    refine W.loop (σ := Nat) (fun i => [(0, .pointer (some ⟨q, 0, none⟩)), (1, .pointer (some ⟨r, 0, none⟩)), (8, .int .i64 ((i : Int) - 1))]) (fun i ds w => ds = [] ∧ i ≤ rk.length + 2 ∧ Holds w (base w0 :: Mk q rk s :: Rq r rk s :: L)) (fun i => rk.length + 2 - i) 0 ⟨rfl, rfl, rfl, trivial⟩ ⟨rfl, by omega, Holds.to (by assumption)⟩ ?_
    clear H
    rintro i _ w ⟨rfl, hi, H⟩
    obtain ⟨v, hv⟩ : ∃ v, v = (i : Int) - 1 := ⟨_, rfl⟩
    rw [← hv]
    obtain ⟨rv, wv, Wt, hW, H⟩ := rq_open.1 (Holds.to (by assumption))
    have H := rqO_open.1 H
    have hwl := hW.len
    refine W.seq (fun K7 hK7 => ?_)
    refine W.seq (fun K8 hK8 => ?_)
    refine W.region ?_
    refine O.ex (Ex.move rfl) rfl ?_
    refine O.ex (Ex.move rfl) rfl ?_
    refine O.ex (by first | exact Ex.nilPtr rfl | exact Ex.nilFunc rfl | exact Ex.nilYield rfl) rfl ?_
    refine O.ex (by first | exact Ex.field0 fld51_0 rfl | exact Ex.field fld51_0 rfl | exact Ex.fieldS fld51_0 rfl) rfl ?_
    refine O.ex (by first | exact Ex.loadP Tryd.isAgg22 rfl | exact Ex.loadR Tryd.isAgg22 rfl | exact Ex.loadIn1 Tryd.isAgg22 rfl (Holds.to (by assumption))) rfl ?_
    refine O.ex (by first | exact Ex.lenR Tryd.runUnderlying22 rfl | exact Ex.lenIn Tryd.runUnderlying22 rfl | exact Ex.lenL Tryd.runUnderlying22 rfl | exact Ex.len rfl Tryd.runUnderlying22 rfl) rfl ?_
    refine O.ex (Ex.leq rfl rfl) rfl ?_
    refine O.nil ?_
    refine hK8 _ _ _ ?_
    first | refine W.cond_p rfl (fun hlt => ?_) (fun hge => ?_) | refine W.cond_b rfl (fun hlt => ?_) (fun hge => ?_)
    · refine W.skip ?_
      refine hK7 _ _ _ ?_
      refine W.seq (fun K9 hK9 => ?_)
      refine W.block ?_
      refine W.seq (fun K10 hK10 => ?_)
      refine W.region ?_
      refine O.ex (Ex.move rfl) rfl ?_
      refine O.ex (Ex.geq rfl rfl) rfl ?_
      refine O.ex (Ex.move rfl) rfl ?_
      first | refine O.split_p (t := 65) rfl (fun hv0 => ?_) (fun hvn => ?_) | refine O.split (t := 65) rfl (fun hv0 => ?_) (fun hvn => ?_)
      · refine O.guard_t rfl rfl ?_
        refine O.ex (Ex.move rfl) rfl ?_
        refine O.guard_t rfl rfl ?_
        refine O.ex (Ex.move rfl) rfl ?_
        refine O.guard_t rfl rfl ?_
        refine O.ex (by first | exact Ex.nilPtr rfl | exact Ex.nilFunc rfl | exact Ex.nilYield rfl) rfl ?_
        refine O.guard_t rfl rfl ?_
        refine O.ex (by first | exact Ex.field0 fld51_0 rfl | exact Ex.field fld51_0 rfl | exact Ex.fieldS fld51_0 rfl) rfl ?_
        refine O.guard_t rfl rfl ?_
        refine O.ex (by first | exact Ex.loadP Tryd.isAgg22 rfl | exact Ex.loadR Tryd.isAgg22 rfl | exact Ex.loadIn1 Tryd.isAgg22 rfl (Holds.to (by assumption))) rfl ?_
        refine O.guard_t rfl rfl ?_
        refine O.ex (by first | exact Ex.lenR Tryd.runUnderlying22 rfl | exact Ex.lenIn Tryd.runUnderlying22 rfl | exact Ex.lenL Tryd.runUnderlying22 rfl | exact Ex.len rfl Tryd.runUnderlying22 rfl) rfl ?_
        refine O.guard_t rfl rfl ?_
        refine O.ex (Ex.lss rfl rfl) rfl ?_
        refine O.ex (Ex.pick_t rfl rfl) rfl ?_
        refine O.ex (Ex.move rfl) rfl ?_
        first | refine O.split_p (t := 74) rfl (fun hvl => ?_) (fun hvb => ?_) | refine O.split (t := 74) rfl (fun hvl => ?_) (fun hvb => ?_)
        · refine O.guard_t rfl rfl ?_
          refine O.ex (Ex.move rfl) rfl ?_
          refine O.guard_t rfl rfl ?_
          refine O.ex (by first | exact Ex.nilPtr rfl | exact Ex.nilFunc rfl | exact Ex.nilYield rfl) rfl ?_
          refine O.guard_t rfl rfl ?_
          refine O.ex (by first | exact Ex.field0 fld51_1 rfl | exact Ex.field fld51_1 rfl | exact Ex.fieldS fld51_1 rfl) rfl ?_
          refine O.guard_t rfl rfl ?_
          refine O.ex (by first | exact Ex.loadP Tryd.isAgg49 rfl | exact Ex.loadR Tryd.isAgg49 rfl | exact Ex.loadIn1 Tryd.isAgg49 rfl (Holds.to (by assumption))) rfl ?_
          refine O.guard_t rfl rfl ?_
          refine O.ex (Ex.move rfl) rfl ?_
          refine O.guard_t rfl rfl ?_
          refine O.ex (by first | exact Ex.idxR Tryd.runUnderlying49 Tryd.sizeOf4 rfl rfl | exact Ex.idxIn Tryd.runUnderlying49 Tryd.sizeOf4 rfl rfl | exact Ex.idxS Tryd.runUnderlying49 Tryd.sizeOf4 rfl rfl | exact Ex.idx Tryd.runUnderlying49 Tryd.sizeOf4 rfl rfl (by omega) (by omega)) rfl ?_
          refine O.guard_t rfl rfl ?_
          refine O.ex (by first | exact Ex.loadP Tryd.isAgg4 rfl | exact Ex.loadR Tryd.isAgg4 rfl | exact Ex.loadIn1 Tryd.isAgg4 rfl (Holds.to (by assumption))) rfl ?_
          refine O.ex (Ex.pick_t rfl rfl) rfl ?_
          refine O.ex (Ex.assign rfl) rfl ?_
          refine O.nil ?_
          refine hK10 _ _ _ ?_
          refine W.seq (fun K11 hK11 => ?_)
          refine W.region ?_
          have H := rq_open.2 ⟨rv, wv, Wt, hW, rqO_open.2 (Holds.to (by assumption))⟩
          first
          | (have hhv : hasV rk s v = Wt.getD v.toNat default := by
               rw [hW.get v.toNat (by omega)]; unfold hasV; rw [decide_eq_true (show 0 ≤ v ∧ v < rk.length from ⟨hv0, hvl⟩), Bool.true_and])
          | (have hhv : hasV rk s v = false := by unfold hasV; rw [decide_eq_false (show ¬ (0 ≤ v ∧ v < rk.length) by omega), Bool.false_and])
          have hsv := (inS_setQ hr hs v).trans hhv
          refine O.ex (Ex.move rfl) rfl ?_
          refine O.ex (Ex.move rfl) rfl ?_
          refine O.callF Tryd.call26 rfl rfl (CT.mono (qHas_ct (rk := rk) hr hs.1 (Holds.to (by assumption))) ?_)
          rintro _ w ⟨rfl, H⟩
          refine O.ex (Ex.move rfl) rfl ?_
          refine O.ex (Ex.neqB Tryd.runUnderlying4 rfl rfl) rfl ?_
          refine O.ex (Ex.move rfl) rfl ?_
          refine O.known (t := 88) (c := false) rfl (by first | rfl | exact decide_eq_true (fun h => h h0) | exact decide_eq_false (fun h => h (decide_eq_decide.2 hA)) | exact decide_eq_false (fun h => h h0) | (rw [decide_eq_false (fun h => h h0)]; rfl) | exact decide_eq_true h0 | (rw [decide_eq_true h0]; rfl) | exact decide_eq_false (fun h => h hfr) | exact decide_eq_false (fun h => h hpl) | exact decide_eq_false (fun h => h rfl) | exact decide_eq_false (fun h => h hhv) | exact decide_eq_false (fun h => h hsv)) ?_
          refine O.guard_t rfl rfl ?_
          refine O.ex (Ex.move rfl) rfl ?_
          refine O.guard_t rfl rfl ?_
          refine O.callF Tryd.call18 rfl rfl (CT.mono (qSet_ct (rk := rk) hT hr hs (Holds.to (by assumption))) ?_)
          rintro _ w ⟨rfl, H⟩
          refine O.guard_t rfl rfl ?_
          refine O.ex (Ex.move rfl) rfl ?_
          refine O.guard_t rfl rfl ?_
          refine O.callF Tryd.call20 rfl rfl (CT.mono (has_ct (Holds.to (by assumption)) (setQ_64 rk s)) ?_)
          rintro _ w ⟨rfl, H⟩
          refine O.guard_t rfl rfl ?_
          refine O.ex (Ex.move rfl) rfl ?_
          refine O.guard_t rfl rfl ?_
          refine O.ex (Ex.neqB Tryd.runUnderlying4 rfl rfl) rfl ?_
          refine O.ex (Ex.pick_f rfl rfl) rfl ?_
          refine O.nil ?_
          refine hK11 _ _ _ ?_
          refine W.known_f rfl (by first | rfl | exact decide_eq_true (fun h => h h0) | exact decide_eq_false (fun h => h (decide_eq_decide.2 hA)) | exact decide_eq_false (fun h => h h0) | (rw [decide_eq_false (fun h => h h0)]; rfl) | exact decide_eq_true h0 | (rw [decide_eq_true h0]; rfl) | exact decide_eq_false (fun h => h hfr) | exact decide_eq_false (fun h => h hpl) | exact decide_eq_false (fun h => h rfl) | exact decide_eq_false (fun h => h hhv) | exact decide_eq_false (fun h => h hsv)) ?_
          refine W.skip ?_
          refine hK9 _ _ _ ?_
          refine W.region ?_
          refine O.ex (Ex.move rfl) rfl ?_
          refine O.ex (by first | exact Ex.addI rfl rfl | exact Ex.add rfl rfl rfl) rfl ?_
          refine O.ex (Ex.assign rfl) rfl ?_
          refine O.nil ?_
          exact ⟨i + 1, ⟨rfl, rfl, by rw [hv, show ((i + 1 : Nat) : Int) - 1 = (i : Int) - 1 + 1 from by omega]; rfl, trivial⟩, ⟨rfl, by omega, Holds.to (by assumption)⟩, by omega⟩
        · refine O.guard_f rfl rfl rfl rfl ?_
          refine O.guard_f rfl rfl rfl rfl ?_
          refine O.guard_f rfl rfl rfl rfl ?_
          refine O.guard_f rfl rfl rfl rfl ?_
          refine O.guard_f rfl rfl rfl rfl ?_
          refine O.guard_f rfl rfl rfl rfl ?_
          refine O.guard_f rfl rfl rfl rfl ?_
          refine O.ex (Ex.pick_f rfl rfl) rfl ?_
          refine O.ex (Ex.assign rfl) rfl ?_
          refine O.nil ?_
          refine hK10 _ _ _ ?_
          refine W.seq (fun K12 hK12 => ?_)
          refine W.region ?_
          have H := rq_open.2 ⟨rv, wv, Wt, hW, rqO_open.2 (Holds.to (by assumption))⟩
          first
          | (have hhv : hasV rk s v = Wt.getD v.toNat default := by
               rw [hW.get v.toNat (by omega)]; unfold hasV; rw [decide_eq_true (show 0 ≤ v ∧ v < rk.length from ⟨hv0, hvl⟩), Bool.true_and])
          | (have hhv : hasV rk s v = false := by unfold hasV; rw [decide_eq_false (show ¬ (0 ≤ v ∧ v < rk.length) by omega), Bool.false_and])
          have hsv := (inS_setQ hr hs v).trans hhv
          refine O.ex (Ex.move rfl) rfl ?_
          refine O.ex (Ex.move rfl) rfl ?_
          refine O.callF Tryd.call26 rfl rfl (CT.mono (qHas_ct (rk := rk) hr hs.1 (Holds.to (by assumption))) ?_)
          rintro _ w ⟨rfl, H⟩
          refine O.ex (Ex.move rfl) rfl ?_
          refine O.ex (Ex.neqB Tryd.runUnderlying4 rfl rfl) rfl ?_
          refine O.ex (Ex.move rfl) rfl ?_
          refine O.known (t := 88) (c := false) rfl (by first | rfl | exact decide_eq_true (fun h => h h0) | exact decide_eq_false (fun h => h (decide_eq_decide.2 hA)) | exact decide_eq_false (fun h => h h0) | (rw [decide_eq_false (fun h => h h0)]; rfl) | exact decide_eq_true h0 | (rw [decide_eq_true h0]; rfl) | exact decide_eq_false (fun h => h hfr) | exact decide_eq_false (fun h => h hpl) | exact decide_eq_false (fun h => h rfl) | exact decide_eq_false (fun h => h hhv) | exact decide_eq_false (fun h => h hsv)) ?_
          refine O.guard_t rfl rfl ?_
          refine O.ex (Ex.move rfl) rfl ?_
          refine O.guard_t rfl rfl ?_
          refine O.callF Tryd.call18 rfl rfl (CT.mono (qSet_ct (rk := rk) hT hr hs (Holds.to (by assumption))) ?_)
          rintro _ w ⟨rfl, H⟩
          refine O.guard_t rfl rfl ?_
          refine O.ex (Ex.move rfl) rfl ?_
          refine O.guard_t rfl rfl ?_
          refine O.callF Tryd.call20 rfl rfl (CT.mono (has_ct (Holds.to (by assumption)) (setQ_64 rk s)) ?_)
          rintro _ w ⟨rfl, H⟩
          refine O.guard_t rfl rfl ?_
          refine O.ex (Ex.move rfl) rfl ?_
          refine O.guard_t rfl rfl ?_
          refine O.ex (Ex.neqB Tryd.runUnderlying4 rfl rfl) rfl ?_
          refine O.ex (Ex.pick_f rfl rfl) rfl ?_
          refine O.nil ?_
          refine hK12 _ _ _ ?_
          refine W.known_f rfl (by first | rfl | exact decide_eq_true (fun h => h h0) | exact decide_eq_false (fun h => h (decide_eq_decide.2 hA)) | exact decide_eq_false (fun h => h h0) | (rw [decide_eq_false (fun h => h h0)]; rfl) | exact decide_eq_true h0 | (rw [decide_eq_true h0]; rfl) | exact decide_eq_false (fun h => h hfr) | exact decide_eq_false (fun h => h hpl) | exact decide_eq_false (fun h => h rfl) | exact decide_eq_false (fun h => h hhv) | exact decide_eq_false (fun h => h hsv)) ?_
          refine W.skip ?_
          refine hK9 _ _ _ ?_
          refine W.region ?_
          refine O.ex (Ex.move rfl) rfl ?_
          refine O.ex (by first | exact Ex.addI rfl rfl | exact Ex.add rfl rfl rfl) rfl ?_
          refine O.ex (Ex.assign rfl) rfl ?_
          refine O.nil ?_
          exact ⟨i + 1, ⟨rfl, rfl, by rw [hv, show ((i + 1 : Nat) : Int) - 1 = (i : Int) - 1 + 1 from by omega]; rfl, trivial⟩, ⟨rfl, by omega, Holds.to (by assumption)⟩, by omega⟩
      · refine O.guard_f rfl rfl rfl rfl ?_
        refine O.guard_f rfl rfl rfl rfl ?_
        refine O.guard_f rfl rfl rfl rfl ?_
        refine O.guard_f rfl rfl rfl rfl ?_
        refine O.guard_f rfl rfl rfl rfl ?_
        refine O.guard_f rfl rfl rfl rfl ?_
        refine O.guard_f rfl rfl rfl rfl ?_
        refine O.ex (Ex.pick_f rfl rfl) rfl ?_
        refine O.ex (Ex.move rfl) rfl ?_
        refine O.guard_f rfl rfl rfl rfl ?_
        refine O.guard_f rfl rfl rfl rfl ?_
        refine O.guard_f rfl rfl rfl rfl ?_
        refine O.guard_f rfl rfl rfl rfl ?_
        refine O.guard_f rfl rfl rfl rfl ?_
        refine O.guard_f rfl rfl rfl rfl ?_
        refine O.guard_f rfl rfl rfl rfl ?_
        refine O.ex (Ex.pick_f rfl rfl) rfl ?_
        refine O.ex (Ex.assign rfl) rfl ?_
        refine O.nil ?_
        refine hK10 _ _ _ ?_
        refine W.seq (fun K13 hK13 => ?_)
        refine W.region ?_
        have H := rq_open.2 ⟨rv, wv, Wt, hW, rqO_open.2 (Holds.to (by assumption))⟩
        first
        | (have hhv : hasV rk s v = Wt.getD v.toNat default := by
             rw [hW.get v.toNat (by omega)]; unfold hasV; rw [decide_eq_true (show 0 ≤ v ∧ v < rk.length from ⟨hv0, hvl⟩), Bool.true_and])
        | (have hhv : hasV rk s v = false := by unfold hasV; rw [decide_eq_false (show ¬ (0 ≤ v ∧ v < rk.length) by omega), Bool.false_and])
        have hsv := (inS_setQ hr hs v).trans hhv
        refine O.ex (Ex.move rfl) rfl ?_
        refine O.ex (Ex.move rfl) rfl ?_
        refine O.callF Tryd.call26 rfl rfl (CT.mono (qHas_ct (rk := rk) hr hs.1 (Holds.to (by assumption))) ?_)
        rintro _ w ⟨rfl, H⟩
        refine O.ex (Ex.move rfl) rfl ?_
        refine O.ex (Ex.neqB Tryd.runUnderlying4 rfl rfl) rfl ?_
        refine O.ex (Ex.move rfl) rfl ?_
        refine O.known (t := 88) (c := false) rfl (by first | rfl | exact decide_eq_true (fun h => h h0) | exact decide_eq_false (fun h => h (decide_eq_decide.2 hA)) | exact decide_eq_false (fun h => h h0) | (rw [decide_eq_false (fun h => h h0)]; rfl) | exact decide_eq_true h0 | (rw [decide_eq_true h0]; rfl) | exact decide_eq_false (fun h => h hfr) | exact decide_eq_false (fun h => h hpl) | exact decide_eq_false (fun h => h rfl) | exact decide_eq_false (fun h => h hhv) | exact decide_eq_false (fun h => h hsv)) ?_
        refine O.guard_t rfl rfl ?_
        refine O.ex (Ex.move rfl) rfl ?_
        refine O.guard_t rfl rfl ?_
        refine O.callF Tryd.call18 rfl rfl (CT.mono (qSet_ct (rk := rk) hT hr hs (Holds.to (by assumption))) ?_)
        rintro _ w ⟨rfl, H⟩
        refine O.guard_t rfl rfl ?_
        refine O.ex (Ex.move rfl) rfl ?_
        refine O.guard_t rfl rfl ?_
        refine O.callF Tryd.call20 rfl rfl (CT.mono (has_ct (Holds.to (by assumption)) (setQ_64 rk s)) ?_)
        rintro _ w ⟨rfl, H⟩
        refine O.guard_t rfl rfl ?_
        refine O.ex (Ex.move rfl) rfl ?_
        refine O.guard_t rfl rfl ?_
        refine O.ex (Ex.neqB Tryd.runUnderlying4 rfl rfl) rfl ?_
        refine O.ex (Ex.pick_f rfl rfl) rfl ?_
        refine O.nil ?_
        refine hK13 _ _ _ ?_
        refine W.known_f rfl (by first | rfl | exact decide_eq_true (fun h => h h0) | exact decide_eq_false (fun h => h (decide_eq_decide.2 hA)) | exact decide_eq_false (fun h => h h0) | (rw [decide_eq_false (fun h => h h0)]; rfl) | exact decide_eq_true h0 | (rw [decide_eq_true h0]; rfl) | exact decide_eq_false (fun h => h hfr) | exact decide_eq_false (fun h => h hpl) | exact decide_eq_false (fun h => h rfl) | exact decide_eq_false (fun h => h hhv) | exact decide_eq_false (fun h => h hsv)) ?_
        refine W.skip ?_
        refine hK9 _ _ _ ?_
        refine W.region ?_
        refine O.ex (Ex.move rfl) rfl ?_
        refine O.ex (by first | exact Ex.addI rfl rfl | exact Ex.add rfl rfl rfl) rfl ?_
        refine O.ex (Ex.assign rfl) rfl ?_
        refine O.nil ?_
        exact ⟨i + 1, ⟨rfl, rfl, by rw [hv, show ((i + 1 : Nat) : Int) - 1 = (i : Int) - 1 + 1 from by omega]; rfl, trivial⟩, ⟨rfl, by omega, Holds.to (by assumption)⟩, by omega⟩
    · refine W.exit ?_
      refine hK5 _ _ _ ?_
      refine W.seq (fun K14 hK14 => ?_)
      refine W.region ?_
      have H := rq_open.2 ⟨rv, wv, Wt, hW, rqO_open.2 (Holds.to (by assumption))⟩
      refine O.ex (Ex.move rfl) rfl ?_
      refine O.callF Tryd.call18 rfl rfl (CT.mono (qSet_ct (rk := rk) hT hr hs (Holds.to (by assumption))) ?_)
      rintro _ w ⟨rfl, H⟩
      refine O.ex (Ex.lss rfl rfl) rfl ?_
      refine O.ex (Ex.assign rfl) rfl ?_
      refine O.nil ?_
      refine hK14 _ _ _ ?_
      refine W.ret ?_
      try dsimp only [thenQ, blockQ, retQ]
      first | refine ⟨_, ⟨_, _, rfl, rfl, rfl⟩, ?_⟩ | (refine retD_mark ?_; intro w H; refine ⟨_, ⟨_, _, rfl, rfl, rfl⟩, ?_⟩) | (refine retD_mark2 ?_; intro w H; refine ⟨_, ⟨_, _, rfl, rfl, rfl⟩, ?_⟩)
      exact ⟨congrArg Value.bool (decide_eq_true (by have := setQ_lt hr hs; omega)), Holds.to (by assumption)⟩
  · have hfr : frs rk s = (alL rk s).getD (Int.toNat 0) default := by unfold frs; rw [if_neg h0]; exact (alL_fst hs h0).symm
    have hfl : 0 < (alL rk s).length := by have := hA.1 h0; omega
    refine O.ex (Ex.move rfl) rfl ?_
    refine O.ex (Ex.move rfl) rfl ?_
    refine O.ex (by first | exact Ex.lenR Tryd.runUnderlying22 rfl | exact Ex.lenIn Tryd.runUnderlying22 rfl | exact Ex.lenL Tryd.runUnderlying22 rfl | exact Ex.len rfl Tryd.runUnderlying22 rfl) rfl ?_
    refine O.ex (Ex.gtr rfl rfl) rfl ?_
    refine O.ex (Ex.neqB Tryd.runUnderlying4 rfl rfl) rfl ?_
    refine O.ex (Ex.move rfl) rfl ?_
    refine O.known (t := 22) (c := false) rfl (by first | rfl | exact decide_eq_true (fun h => h h0) | exact decide_eq_false (fun h => h (decide_eq_decide.2 hA)) | exact decide_eq_false (fun h => h h0) | (rw [decide_eq_false (fun h => h h0)]; rfl) | exact decide_eq_true h0 | (rw [decide_eq_true h0]; rfl) | exact decide_eq_false (fun h => h hfr) | exact decide_eq_false (fun h => h hpl) | exact decide_eq_false (fun h => h rfl) | exact decide_eq_false (fun h => h hhv) | exact decide_eq_false (fun h => h hsv)) ?_
    refine O.guard_t rfl rfl ?_
    refine O.ex (Ex.move rfl) rfl ?_
    refine O.guard_t rfl rfl ?_
    refine O.ex (Ex.move rfl) rfl ?_
    refine O.known (t := 24) (c := true) rfl (by first | rfl | exact decide_eq_true (fun h => h h0) | exact decide_eq_false (fun h => h (decide_eq_decide.2 hA)) | exact decide_eq_false (fun h => h h0) | (rw [decide_eq_false (fun h => h h0)]; rfl) | exact decide_eq_true h0 | (rw [decide_eq_true h0]; rfl) | exact decide_eq_false (fun h => h hfr) | exact decide_eq_false (fun h => h hpl) | exact decide_eq_false (fun h => h rfl) | exact decide_eq_false (fun h => h hhv) | exact decide_eq_false (fun h => h hsv)) ?_
    refine O.guard_t rfl rfl ?_
    refine O.ex (Ex.move rfl) rfl ?_
    refine O.guard_t rfl rfl ?_
    refine O.ex (Ex.move rfl) rfl ?_
    refine O.guard_t rfl rfl ?_
    refine O.ex (by first | exact Ex.idxR Tryd.runUnderlying22 Tryd.sizeOf3 rfl rfl | exact Ex.idxIn Tryd.runUnderlying22 Tryd.sizeOf3 rfl rfl | exact Ex.idxS Tryd.runUnderlying22 Tryd.sizeOf3 rfl rfl | exact Ex.idx Tryd.runUnderlying22 Tryd.sizeOf3 rfl rfl (by omega) (by omega)) rfl ?_
    refine O.guard_t rfl rfl ?_
    refine O.ex (by first | exact Ex.loadP Tryd.isAgg3 rfl | exact Ex.loadR Tryd.isAgg3 rfl | exact Ex.loadIn1 Tryd.isAgg3 rfl (Holds.to (by assumption))) rfl ?_
    refine O.guard_t rfl rfl ?_
    refine O.ex (Ex.neqI rfl rfl) rfl ?_
    refine O.guard_t rfl rfl ?_
    refine O.ex (Ex.pick_t rfl rfl) rfl ?_
    refine O.ex (Ex.pick_f rfl rfl) rfl ?_
    refine O.ex (Ex.move rfl) rfl ?_
    refine O.known (t := 32) (c := false) rfl (by first | rfl | exact decide_eq_true (fun h => h h0) | exact decide_eq_false (fun h => h (decide_eq_decide.2 hA)) | exact decide_eq_false (fun h => h h0) | (rw [decide_eq_false (fun h => h h0)]; rfl) | exact decide_eq_true h0 | (rw [decide_eq_true h0]; rfl) | exact decide_eq_false (fun h => h hfr) | exact decide_eq_false (fun h => h hpl) | exact decide_eq_false (fun h => h rfl) | exact decide_eq_false (fun h => h hhv) | exact decide_eq_false (fun h => h hsv)) ?_
    refine O.guard_t rfl rfl ?_
    refine O.ex (Ex.move rfl) rfl ?_
    refine O.guard_t rfl rfl ?_
    refine O.ex (by first | exact Ex.notD rfl | exact Ex.not rfl) rfl ?_
    refine O.guard_t rfl rfl ?_
    refine O.ex (Ex.move rfl) rfl ?_
    refine O.known (t := 35) (c := false) rfl (by first | rfl | exact decide_eq_true (fun h => h h0) | exact decide_eq_false (fun h => h (decide_eq_decide.2 hA)) | exact decide_eq_false (fun h => h h0) | (rw [decide_eq_false (fun h => h h0)]; rfl) | exact decide_eq_true h0 | (rw [decide_eq_true h0]; rfl) | exact decide_eq_false (fun h => h hfr) | exact decide_eq_false (fun h => h hpl) | exact decide_eq_false (fun h => h rfl) | exact decide_eq_false (fun h => h hhv) | exact decide_eq_false (fun h => h hsv)) ?_
    refine O.guard_f rfl rfl rfl rfl ?_
    refine O.guard_f rfl rfl rfl rfl ?_
    refine O.guard_t rfl rfl ?_
    refine O.ex (Ex.pick_f rfl rfl) rfl ?_
    refine O.ex (Ex.pick_f rfl rfl) rfl ?_
    refine O.ex (Ex.move rfl) rfl ?_
    refine O.guard_t rfl rfl ?_
    refine O.ex (Ex.move rfl) rfl ?_
    refine O.guard_t rfl rfl ?_
    refine O.callF Tryd.call16 rfl rfl (CT.mono (qLen_ct (rk := rk) hs.1 (Holds.to (by assumption))) ?_)
    rintro _ w ⟨rfl, H⟩
    refine O.guard_t rfl rfl ?_
    refine O.ex (Ex.move rfl) rfl ?_
    refine O.guard_t rfl rfl ?_
    refine O.ex (by first | exact Ex.lenR Tryd.runUnderlying22 rfl | exact Ex.lenIn Tryd.runUnderlying22 rfl | exact Ex.lenL Tryd.runUnderlying22 rfl | exact Ex.len rfl Tryd.runUnderlying22 rfl) rfl ?_
    refine O.guard_t rfl rfl ?_
    refine O.ex (Ex.neqI rfl rfl) rfl ?_
    refine O.ex (Ex.pick_f rfl rfl) rfl ?_
    refine O.ex (Ex.move rfl) rfl ?_
    refine O.known (t := 47) (c := false) rfl (by first | rfl | exact decide_eq_true (fun h => h h0) | exact decide_eq_false (fun h => h (decide_eq_decide.2 hA)) | exact decide_eq_false (fun h => h h0) | (rw [decide_eq_false (fun h => h h0)]; rfl) | exact decide_eq_true h0 | (rw [decide_eq_true h0]; rfl) | exact decide_eq_false (fun h => h hfr) | exact decide_eq_false (fun h => h hpl) | exact decide_eq_false (fun h => h rfl) | exact decide_eq_false (fun h => h hhv) | exact decide_eq_false (fun h => h hsv)) ?_
    refine O.guard_t rfl rfl ?_
    refine O.ex (Ex.move rfl) rfl ?_
    refine O.guard_t rfl rfl ?_
    refine O.callF Tryd.call17 rfl rfl (CT.mono (qFloor_ct (rk := rk) hT hs.1 (Holds.to (by assumption))) ?_)
    rintro _ w ⟨rfl, H⟩
    refine O.guard_t rfl rfl ?_
    refine O.ex (Ex.move rfl) rfl ?_
    refine O.guard_t rfl rfl ?_
    refine O.callF Tryd.call41 rfl rfl (CT.mono (rqFloor_ct (rk := rk) hr hs (Holds.to (by assumption))) ?_)
    rintro _ w ⟨rfl, H⟩
    refine O.guard_t rfl rfl ?_
    refine O.ex (Ex.neqI rfl rfl) rfl ?_
    refine O.ex (Ex.pick_f rfl rfl) rfl ?_
    refine O.nil ?_
    refine hK4 _ _ _ ?_
    refine W.known_f rfl (by first | rfl | exact decide_eq_true (fun h => h h0) | exact decide_eq_false (fun h => h (decide_eq_decide.2 hA)) | exact decide_eq_false (fun h => h h0) | (rw [decide_eq_false (fun h => h h0)]; rfl) | exact decide_eq_true h0 | (rw [decide_eq_true h0]; rfl) | exact decide_eq_false (fun h => h hfr) | exact decide_eq_false (fun h => h hpl) | exact decide_eq_false (fun h => h rfl) | exact decide_eq_false (fun h => h hhv) | exact decide_eq_false (fun h => h hsv)) ?_
    refine W.skip ?_
    refine hK3 _ _ _ ?_
    refine W.seq (fun K15 hK15 => ?_)
    refine W.seq (fun K16 hK16 => ?_)
    refine W.region ?_
    refine O.ex (Ex.assign rfl) rfl ?_
    refine O.nil ?_
    refine hK16 _ _ _ ?_
    refine W.block ?_
    refine W.loop (σ := Nat) (fun i => [(0, .pointer (some ⟨q, 0, none⟩)), (1, .pointer (some ⟨r, 0, none⟩)), (8, .int .i64 ((i : Int) - 1))]) (fun i ds w => ds = [] ∧ i ≤ rk.length + 2 ∧ Holds w (base w0 :: Mk q rk s :: Rq r rk s :: L)) (fun i => rk.length + 2 - i) 0 ⟨rfl, rfl, rfl, trivial⟩ ⟨rfl, by omega, Holds.to (by assumption)⟩ ?_
    clear H
    rintro i _ w ⟨rfl, hi, H⟩
    obtain ⟨v, hv⟩ : ∃ v, v = (i : Int) - 1 := ⟨_, rfl⟩
    rw [← hv]
    obtain ⟨rv, wv, Wt, hW, H⟩ := rq_open.1 (Holds.to (by assumption))
    have H := rqO_open.1 H
    have hwl := hW.len
    refine W.seq (fun K17 hK17 => ?_)
    refine W.seq (fun K18 hK18 => ?_)
    refine W.region ?_
    refine O.ex (Ex.move rfl) rfl ?_
    refine O.ex (Ex.move rfl) rfl ?_
    refine O.ex (by first | exact Ex.nilPtr rfl | exact Ex.nilFunc rfl | exact Ex.nilYield rfl) rfl ?_
    refine O.ex (by first | exact Ex.field0 fld51_0 rfl | exact Ex.field fld51_0 rfl | exact Ex.fieldS fld51_0 rfl) rfl ?_
    refine O.ex (by first | exact Ex.loadP Tryd.isAgg22 rfl | exact Ex.loadR Tryd.isAgg22 rfl | exact Ex.loadIn1 Tryd.isAgg22 rfl (Holds.to (by assumption))) rfl ?_
    refine O.ex (by first | exact Ex.lenR Tryd.runUnderlying22 rfl | exact Ex.lenIn Tryd.runUnderlying22 rfl | exact Ex.lenL Tryd.runUnderlying22 rfl | exact Ex.len rfl Tryd.runUnderlying22 rfl) rfl ?_
    refine O.ex (Ex.leq rfl rfl) rfl ?_
    refine O.nil ?_
    refine hK18 _ _ _ ?_
    first | refine W.cond_p rfl (fun hlt => ?_) (fun hge => ?_) | refine W.cond_b rfl (fun hlt => ?_) (fun hge => ?_)
    · refine W.skip ?_
      refine hK17 _ _ _ ?_
      refine W.seq (fun K19 hK19 => ?_)
      refine W.block ?_
      refine W.seq (fun K20 hK20 => ?_)
      refine W.region ?_
      refine O.ex (Ex.move rfl) rfl ?_
      refine O.ex (Ex.geq rfl rfl) rfl ?_
      refine O.ex (Ex.move rfl) rfl ?_
      first | refine O.split_p (t := 65) rfl (fun hv0 => ?_) (fun hvn => ?_) | refine O.split (t := 65) rfl (fun hv0 => ?_) (fun hvn => ?_)
      · refine O.guard_t rfl rfl ?_
        refine O.ex (Ex.move rfl) rfl ?_
        refine O.guard_t rfl rfl ?_
        refine O.ex (Ex.move rfl) rfl ?_
        refine O.guard_t rfl rfl ?_
        refine O.ex (by first | exact Ex.nilPtr rfl | exact Ex.nilFunc rfl | exact Ex.nilYield rfl) rfl ?_
        refine O.guard_t rfl rfl ?_
        refine O.ex (by first | exact Ex.field0 fld51_0 rfl | exact Ex.field fld51_0 rfl | exact Ex.fieldS fld51_0 rfl) rfl ?_
        refine O.guard_t rfl rfl ?_
        refine O.ex (by first | exact Ex.loadP Tryd.isAgg22 rfl | exact Ex.loadR Tryd.isAgg22 rfl | exact Ex.loadIn1 Tryd.isAgg22 rfl (Holds.to (by assumption))) rfl ?_
        refine O.guard_t rfl rfl ?_
        refine O.ex (by first | exact Ex.lenR Tryd.runUnderlying22 rfl | exact Ex.lenIn Tryd.runUnderlying22 rfl | exact Ex.lenL Tryd.runUnderlying22 rfl | exact Ex.len rfl Tryd.runUnderlying22 rfl) rfl ?_
        refine O.guard_t rfl rfl ?_
        refine O.ex (Ex.lss rfl rfl) rfl ?_
        refine O.ex (Ex.pick_t rfl rfl) rfl ?_
        refine O.ex (Ex.move rfl) rfl ?_
        first | refine O.split_p (t := 74) rfl (fun hvl => ?_) (fun hvb => ?_) | refine O.split (t := 74) rfl (fun hvl => ?_) (fun hvb => ?_)
        · refine O.guard_t rfl rfl ?_
          refine O.ex (Ex.move rfl) rfl ?_
          refine O.guard_t rfl rfl ?_
          refine O.ex (by first | exact Ex.nilPtr rfl | exact Ex.nilFunc rfl | exact Ex.nilYield rfl) rfl ?_
          refine O.guard_t rfl rfl ?_
          refine O.ex (by first | exact Ex.field0 fld51_1 rfl | exact Ex.field fld51_1 rfl | exact Ex.fieldS fld51_1 rfl) rfl ?_
          refine O.guard_t rfl rfl ?_
          refine O.ex (by first | exact Ex.loadP Tryd.isAgg49 rfl | exact Ex.loadR Tryd.isAgg49 rfl | exact Ex.loadIn1 Tryd.isAgg49 rfl (Holds.to (by assumption))) rfl ?_
          refine O.guard_t rfl rfl ?_
          refine O.ex (Ex.move rfl) rfl ?_
          refine O.guard_t rfl rfl ?_
          refine O.ex (by first | exact Ex.idxR Tryd.runUnderlying49 Tryd.sizeOf4 rfl rfl | exact Ex.idxIn Tryd.runUnderlying49 Tryd.sizeOf4 rfl rfl | exact Ex.idxS Tryd.runUnderlying49 Tryd.sizeOf4 rfl rfl | exact Ex.idx Tryd.runUnderlying49 Tryd.sizeOf4 rfl rfl (by omega) (by omega)) rfl ?_
          refine O.guard_t rfl rfl ?_
          refine O.ex (by first | exact Ex.loadP Tryd.isAgg4 rfl | exact Ex.loadR Tryd.isAgg4 rfl | exact Ex.loadIn1 Tryd.isAgg4 rfl (Holds.to (by assumption))) rfl ?_
          refine O.ex (Ex.pick_t rfl rfl) rfl ?_
          refine O.ex (Ex.assign rfl) rfl ?_
          refine O.nil ?_
          refine hK20 _ _ _ ?_
          refine W.seq (fun K21 hK21 => ?_)
          refine W.region ?_
          have H := rq_open.2 ⟨rv, wv, Wt, hW, rqO_open.2 (Holds.to (by assumption))⟩
          first
          | (have hhv : hasV rk s v = Wt.getD v.toNat default := by
               rw [hW.get v.toNat (by omega)]; unfold hasV; rw [decide_eq_true (show 0 ≤ v ∧ v < rk.length from ⟨hv0, hvl⟩), Bool.true_and])
          | (have hhv : hasV rk s v = false := by unfold hasV; rw [decide_eq_false (show ¬ (0 ≤ v ∧ v < rk.length) by omega), Bool.false_and])
          have hsv := (inS_setQ hr hs v).trans hhv
          refine O.ex (Ex.move rfl) rfl ?_
          refine O.ex (Ex.move rfl) rfl ?_
          refine O.callF Tryd.call26 rfl rfl (CT.mono (qHas_ct (rk := rk) hr hs.1 (Holds.to (by assumption))) ?_)
          rintro _ w ⟨rfl, H⟩
          refine O.ex (Ex.move rfl) rfl ?_
          refine O.ex (Ex.neqB Tryd.runUnderlying4 rfl rfl) rfl ?_
          refine O.ex (Ex.move rfl) rfl ?_
          refine O.known (t := 88) (c := false) rfl (by first | rfl | exact decide_eq_true (fun h => h h0) | exact decide_eq_false (fun h => h (decide_eq_decide.2 hA)) | exact decide_eq_false (fun h => h h0) | (rw [decide_eq_false (fun h => h h0)]; rfl) | exact decide_eq_true h0 | (rw [decide_eq_true h0]; rfl) | exact decide_eq_false (fun h => h hfr) | exact decide_eq_false (fun h => h hpl) | exact decide_eq_false (fun h => h rfl) | exact decide_eq_false (fun h => h hhv) | exact decide_eq_false (fun h => h hsv)) ?_
          refine O.guard_t rfl rfl ?_
          refine O.ex (Ex.move rfl) rfl ?_
          refine O.guard_t rfl rfl ?_
          refine O.callF Tryd.call18 rfl rfl (CT.mono (qSet_ct (rk := rk) hT hr hs (Holds.to (by assumption))) ?_)
          rintro _ w ⟨rfl, H⟩
          refine O.guard_t rfl rfl ?_
          refine O.ex (Ex.move rfl) rfl ?_
          refine O.guard_t rfl rfl ?_
          refine O.callF Tryd.call20 rfl rfl (CT.mono (has_ct (Holds.to (by assumption)) (setQ_64 rk s)) ?_)
          rintro _ w ⟨rfl, H⟩
          refine O.guard_t rfl rfl ?_
          refine O.ex (Ex.move rfl) rfl ?_
          refine O.guard_t rfl rfl ?_
          refine O.ex (Ex.neqB Tryd.runUnderlying4 rfl rfl) rfl ?_
          refine O.ex (Ex.pick_f rfl rfl) rfl ?_
          refine O.nil ?_
          refine hK21 _ _ _ ?_
          refine W.known_f rfl (by first | rfl | exact decide_eq_true (fun h => h h0) | exact decide_eq_false (fun h => h (decide_eq_decide.2 hA)) | exact decide_eq_false (fun h => h h0) | (rw [decide_eq_false (fun h => h h0)]; rfl) | exact decide_eq_true h0 | (rw [decide_eq_true h0]; rfl) | exact decide_eq_false (fun h => h hfr) | exact decide_eq_false (fun h => h hpl) | exact decide_eq_false (fun h => h rfl) | exact decide_eq_false (fun h => h hhv) | exact decide_eq_false (fun h => h hsv)) ?_
          refine W.skip ?_
          refine hK19 _ _ _ ?_
          refine W.region ?_
          refine O.ex (Ex.move rfl) rfl ?_
          refine O.ex (by first | exact Ex.addI rfl rfl | exact Ex.add rfl rfl rfl) rfl ?_
          refine O.ex (Ex.assign rfl) rfl ?_
          refine O.nil ?_
          exact ⟨i + 1, ⟨rfl, rfl, by rw [hv, show ((i + 1 : Nat) : Int) - 1 = (i : Int) - 1 + 1 from by omega]; rfl, trivial⟩, ⟨rfl, by omega, Holds.to (by assumption)⟩, by omega⟩
        · refine O.guard_f rfl rfl rfl rfl ?_
          refine O.guard_f rfl rfl rfl rfl ?_
          refine O.guard_f rfl rfl rfl rfl ?_
          refine O.guard_f rfl rfl rfl rfl ?_
          refine O.guard_f rfl rfl rfl rfl ?_
          refine O.guard_f rfl rfl rfl rfl ?_
          refine O.guard_f rfl rfl rfl rfl ?_
          refine O.ex (Ex.pick_f rfl rfl) rfl ?_
          refine O.ex (Ex.assign rfl) rfl ?_
          refine O.nil ?_
          refine hK20 _ _ _ ?_
          refine W.seq (fun K22 hK22 => ?_)
          refine W.region ?_
          have H := rq_open.2 ⟨rv, wv, Wt, hW, rqO_open.2 (Holds.to (by assumption))⟩
          first
          | (have hhv : hasV rk s v = Wt.getD v.toNat default := by
               rw [hW.get v.toNat (by omega)]; unfold hasV; rw [decide_eq_true (show 0 ≤ v ∧ v < rk.length from ⟨hv0, hvl⟩), Bool.true_and])
          | (have hhv : hasV rk s v = false := by unfold hasV; rw [decide_eq_false (show ¬ (0 ≤ v ∧ v < rk.length) by omega), Bool.false_and])
          have hsv := (inS_setQ hr hs v).trans hhv
          refine O.ex (Ex.move rfl) rfl ?_
          refine O.ex (Ex.move rfl) rfl ?_
          refine O.callF Tryd.call26 rfl rfl (CT.mono (qHas_ct (rk := rk) hr hs.1 (Holds.to (by assumption))) ?_)
          rintro _ w ⟨rfl, H⟩
          refine O.ex (Ex.move rfl) rfl ?_
          refine O.ex (Ex.neqB Tryd.runUnderlying4 rfl rfl) rfl ?_
          refine O.ex (Ex.move rfl) rfl ?_
          refine O.known (t := 88) (c := false) rfl (by first | rfl | exact decide_eq_true (fun h => h h0) | exact decide_eq_false (fun h => h (decide_eq_decide.2 hA)) | exact decide_eq_false (fun h => h h0) | (rw [decide_eq_false (fun h => h h0)]; rfl) | exact decide_eq_true h0 | (rw [decide_eq_true h0]; rfl) | exact decide_eq_false (fun h => h hfr) | exact decide_eq_false (fun h => h hpl) | exact decide_eq_false (fun h => h rfl) | exact decide_eq_false (fun h => h hhv) | exact decide_eq_false (fun h => h hsv)) ?_
          refine O.guard_t rfl rfl ?_
          refine O.ex (Ex.move rfl) rfl ?_
          refine O.guard_t rfl rfl ?_
          refine O.callF Tryd.call18 rfl rfl (CT.mono (qSet_ct (rk := rk) hT hr hs (Holds.to (by assumption))) ?_)
          rintro _ w ⟨rfl, H⟩
          refine O.guard_t rfl rfl ?_
          refine O.ex (Ex.move rfl) rfl ?_
          refine O.guard_t rfl rfl ?_
          refine O.callF Tryd.call20 rfl rfl (CT.mono (has_ct (Holds.to (by assumption)) (setQ_64 rk s)) ?_)
          rintro _ w ⟨rfl, H⟩
          refine O.guard_t rfl rfl ?_
          refine O.ex (Ex.move rfl) rfl ?_
          refine O.guard_t rfl rfl ?_
          refine O.ex (Ex.neqB Tryd.runUnderlying4 rfl rfl) rfl ?_
          refine O.ex (Ex.pick_f rfl rfl) rfl ?_
          refine O.nil ?_
          refine hK22 _ _ _ ?_
          refine W.known_f rfl (by first | rfl | exact decide_eq_true (fun h => h h0) | exact decide_eq_false (fun h => h (decide_eq_decide.2 hA)) | exact decide_eq_false (fun h => h h0) | (rw [decide_eq_false (fun h => h h0)]; rfl) | exact decide_eq_true h0 | (rw [decide_eq_true h0]; rfl) | exact decide_eq_false (fun h => h hfr) | exact decide_eq_false (fun h => h hpl) | exact decide_eq_false (fun h => h rfl) | exact decide_eq_false (fun h => h hhv) | exact decide_eq_false (fun h => h hsv)) ?_
          refine W.skip ?_
          refine hK19 _ _ _ ?_
          refine W.region ?_
          refine O.ex (Ex.move rfl) rfl ?_
          refine O.ex (by first | exact Ex.addI rfl rfl | exact Ex.add rfl rfl rfl) rfl ?_
          refine O.ex (Ex.assign rfl) rfl ?_
          refine O.nil ?_
          exact ⟨i + 1, ⟨rfl, rfl, by rw [hv, show ((i + 1 : Nat) : Int) - 1 = (i : Int) - 1 + 1 from by omega]; rfl, trivial⟩, ⟨rfl, by omega, Holds.to (by assumption)⟩, by omega⟩
      · refine O.guard_f rfl rfl rfl rfl ?_
        refine O.guard_f rfl rfl rfl rfl ?_
        refine O.guard_f rfl rfl rfl rfl ?_
        refine O.guard_f rfl rfl rfl rfl ?_
        refine O.guard_f rfl rfl rfl rfl ?_
        refine O.guard_f rfl rfl rfl rfl ?_
        refine O.guard_f rfl rfl rfl rfl ?_
        refine O.ex (Ex.pick_f rfl rfl) rfl ?_
        refine O.ex (Ex.move rfl) rfl ?_
        refine O.guard_f rfl rfl rfl rfl ?_
        refine O.guard_f rfl rfl rfl rfl ?_
        refine O.guard_f rfl rfl rfl rfl ?_
        refine O.guard_f rfl rfl rfl rfl ?_
        refine O.guard_f rfl rfl rfl rfl ?_
        refine O.guard_f rfl rfl rfl rfl ?_
        refine O.guard_f rfl rfl rfl rfl ?_
        refine O.ex (Ex.pick_f rfl rfl) rfl ?_
        refine O.ex (Ex.assign rfl) rfl ?_
        refine O.nil ?_
        refine hK20 _ _ _ ?_
        refine W.seq (fun K23 hK23 => ?_)
        refine W.region ?_
        have H := rq_open.2 ⟨rv, wv, Wt, hW, rqO_open.2 (Holds.to (by assumption))⟩
        first
        | (have hhv : hasV rk s v = Wt.getD v.toNat default := by
             rw [hW.get v.toNat (by omega)]; unfold hasV; rw [decide_eq_true (show 0 ≤ v ∧ v < rk.length from ⟨hv0, hvl⟩), Bool.true_and])
        | (have hhv : hasV rk s v = false := by unfold hasV; rw [decide_eq_false (show ¬ (0 ≤ v ∧ v < rk.length) by omega), Bool.false_and])
        have hsv := (inS_setQ hr hs v).trans hhv
        refine O.ex (Ex.move rfl) rfl ?_
        refine O.ex (Ex.move rfl) rfl ?_
        refine O.callF Tryd.call26 rfl rfl (CT.mono (qHas_ct (rk := rk) hr hs.1 (Holds.to (by assumption))) ?_)
        rintro _ w ⟨rfl, H⟩
        refine O.ex (Ex.move rfl) rfl ?_
        refine O.ex (Ex.neqB Tryd.runUnderlying4 rfl rfl) rfl ?_
        refine O.ex (Ex.move rfl) rfl ?_
        refine O.known (t := 88) (c := false) rfl (by first | rfl | exact decide_eq_true (fun h => h h0) | exact decide_eq_false (fun h => h (decide_eq_decide.2 hA)) | exact decide_eq_false (fun h => h h0) | (rw [decide_eq_false (fun h => h h0)]; rfl) | exact decide_eq_true h0 | (rw [decide_eq_true h0]; rfl) | exact decide_eq_false (fun h => h hfr) | exact decide_eq_false (fun h => h hpl) | exact decide_eq_false (fun h => h rfl) | exact decide_eq_false (fun h => h hhv) | exact decide_eq_false (fun h => h hsv)) ?_
        refine O.guard_t rfl rfl ?_
        refine O.ex (Ex.move rfl) rfl ?_
        refine O.guard_t rfl rfl ?_
        refine O.callF Tryd.call18 rfl rfl (CT.mono (qSet_ct (rk := rk) hT hr hs (Holds.to (by assumption))) ?_)
        rintro _ w ⟨rfl, H⟩
        refine O.guard_t rfl rfl ?_
        refine O.ex (Ex.move rfl) rfl ?_
        refine O.guard_t rfl rfl ?_
        refine O.callF Tryd.call20 rfl rfl (CT.mono (has_ct (Holds.to (by assumption)) (setQ_64 rk s)) ?_)
        rintro _ w ⟨rfl, H⟩
        refine O.guard_t rfl rfl ?_
        refine O.ex (Ex.move rfl) rfl ?_
        refine O.guard_t rfl rfl ?_
        refine O.ex (Ex.neqB Tryd.runUnderlying4 rfl rfl) rfl ?_
        refine O.ex (Ex.pick_f rfl rfl) rfl ?_
        refine O.nil ?_
        refine hK23 _ _ _ ?_
        refine W.known_f rfl (by first | rfl | exact decide_eq_true (fun h => h h0) | exact decide_eq_false (fun h => h (decide_eq_decide.2 hA)) | exact decide_eq_false (fun h => h h0) | (rw [decide_eq_false (fun h => h h0)]; rfl) | exact decide_eq_true h0 | (rw [decide_eq_true h0]; rfl) | exact decide_eq_false (fun h => h hfr) | exact decide_eq_false (fun h => h hpl) | exact decide_eq_false (fun h => h rfl) | exact decide_eq_false (fun h => h hhv) | exact decide_eq_false (fun h => h hsv)) ?_
        refine W.skip ?_
        refine hK19 _ _ _ ?_
        refine W.region ?_
        refine O.ex (Ex.move rfl) rfl ?_
        refine O.ex (by first | exact Ex.addI rfl rfl | exact Ex.add rfl rfl rfl) rfl ?_
        refine O.ex (Ex.assign rfl) rfl ?_
        refine O.nil ?_
        exact ⟨i + 1, ⟨rfl, rfl, by rw [hv, show ((i + 1 : Nat) : Int) - 1 = (i : Int) - 1 + 1 from by omega]; rfl, trivial⟩, ⟨rfl, by omega, Holds.to (by assumption)⟩, by omega⟩
    · refine W.exit ?_
      refine hK15 _ _ _ ?_
      refine W.seq (fun K24 hK24 => ?_)
      refine W.region ?_
      have H := rq_open.2 ⟨rv, wv, Wt, hW, rqO_open.2 (Holds.to (by assumption))⟩
      refine O.ex (Ex.move rfl) rfl ?_
      refine O.callF Tryd.call18 rfl rfl (CT.mono (qSet_ct (rk := rk) hT hr hs (Holds.to (by assumption))) ?_)
      rintro _ w ⟨rfl, H⟩
      refine O.ex (Ex.lss rfl rfl) rfl ?_
      refine O.ex (Ex.assign rfl) rfl ?_
      refine O.nil ?_
      refine hK24 _ _ _ ?_
      refine W.ret ?_
      try dsimp only [thenQ, blockQ, retQ]
      first | refine ⟨_, ⟨_, _, rfl, rfl, rfl⟩, ?_⟩ | (refine retD_mark ?_; intro w H; refine ⟨_, ⟨_, _, rfl, rfl, rfl⟩, ?_⟩) | (refine retD_mark2 ?_; intro w H; refine ⟨_, ⟨_, _, rfl, rfl, rfl⟩, ?_⟩)
      exact ⟨congrArg Value.bool (decide_eq_true (by have := setQ_lt hr hs; omega)), Holds.to (by assumption)⟩
theorem awake18_ct {w w0 : World} {L : List HProp} (hT : TabAt w0) (H : Holds w (base w0 :: L)) :
    CT Tryd.prog 7 [] w fun u w' => u = .bool true ∧ Holds w' (base w0 :: L) := by
  have hr : RightP [2, 0, 1] := by decide
  have hs : SOk 3 6 := ⟨by decide, by decide⟩
  refine CT.enter (N := 75) Tryd.func7 rfl rfl rfl rfl ?_
  refine W.seq (fun K0 hK0 => ?_)
  refine W.region ?_
  refine O.ex (Ex.assign rfl) rfl ?_
  refine O.nil ?_
  refine hK0 _ _ _ ?_
  refine W.seq (fun K1 hK1 => ?_)
  refine W.region ?_
  refine O.buildK (e := Value.int .i64) (vs := [(0, .int .i64 2), (1, .int .i64 0), (2, .int .i64 1)]) [2, 0, 1] Tryd.runUnderlying22 Tryd.sizeOf3 Tryd.zeroValue3 rfl rfl rfl rfl rfl rfl (fun v12 w hv12 H => ?_)
  refine O.callF Tryd.call9 rfl rfl (CT.mono (mnewA_ct (l := [2, 0, 1]) (Holds.to (by assumption)) (by decide)) ?_)
  rintro _ w (⟨-, q, rfl, H⟩ | ⟨hn, -⟩)
  rotate_left
  · exact absurd ⟨hr, by decide⟩ hn
  refine O.ex (Ex.move rfl) rfl ?_
  refine O.ex (Ex.extract rfl rfl) rfl ?_
  refine O.ex (Ex.extract rfl rfl) rfl ?_
  refine O.ex (Ex.assign rfl) rfl ?_
  refine O.ex (Ex.assign rfl) rfl ?_
  refine O.nil ?_
  refine hK1 _ _ _ ?_
  refine W.seq (fun K2 hK2 => ?_)
  refine W.region ?_
  refine O.buildK (e := Value.int .i64) (vs := [(0, .int .i64 2), (1, .int .i64 0)]) [2, 0] Tryd.runUnderlying22 Tryd.sizeOf3 Tryd.zeroValue3 rfl rfl rfl rfl rfl rfl (fun v17 w hv17 H => ?_)
  refine O.callF Tryd.call9 rfl rfl (CT.mono (mnewA_ct (l := [2, 0]) (Holds.to (by assumption)) (by decide)) ?_)
  rintro _ w (⟨hn, -⟩ | ⟨-, rfl, H⟩)
  · exact absurd hn.1 (by decide)
  refine O.ex (Ex.move rfl) rfl ?_
  refine O.ex (Ex.extract rfl rfl) rfl ?_
  refine O.ex (Ex.extract rfl rfl) rfl ?_
  refine O.ex (Ex.assign rfl) rfl ?_
  refine O.ex (Ex.assign rfl) rfl ?_
  refine O.nil ?_
  refine hK2 _ _ _ ?_
  refine W.seq (fun K3 hK3 => ?_)
  refine W.seq (fun K4 hK4 => ?_)
  refine W.region ?_
  refine O.ex (Ex.move rfl) rfl ?_
  refine O.ex (Ex.nilEq Tryd.runUnderlying25 rfl rfl) rfl ?_
  refine O.ex (Ex.move rfl) rfl ?_
  refine O.known (t := 23) (c := false) rfl (by first | rfl | decide) ?_
  refine O.guard_t rfl rfl ?_
  refine O.ex (Ex.move rfl) rfl ?_
  refine O.guard_t rfl rfl ?_
  refine O.ex (Ex.neqI rfl rfl) rfl ?_
  refine O.ex (Ex.pick_f rfl rfl) rfl ?_
  refine O.ex (Ex.move rfl) rfl ?_
  refine O.known (t := 27) (c := false) rfl (by first | rfl | decide) ?_
  refine O.guard_t rfl rfl ?_
  refine O.ex (Ex.move rfl) rfl ?_
  refine O.guard_t rfl rfl ?_
  refine O.ex (Ex.neqI rfl rfl) rfl ?_
  refine O.ex (Ex.pick_f rfl rfl) rfl ?_
  refine O.nil ?_
  refine hK4 _ _ _ ?_
  refine W.known_f rfl (by first | rfl | decide) ?_
  refine W.skip ?_
  refine hK3 _ _ _ ?_
  refine W.seq (fun K5 hK5 => ?_)
  refine W.region ?_
  refine O.ex (Ex.move rfl) rfl ?_
  refine O.callF Tryd.call11 rfl rfl (CT.mono (qPut_ct (rk := [2, 0, 1]) (s := 0) hr (by decide) (Holds.to (by assumption))) ?_)
  rintro _ w ⟨rfl, H⟩
  rw [show pset [2, 0, 1] 0 0 = 4 by decide] at H
  refine O.ex (Ex.assign rfl) rfl ?_
  refine O.nil ?_
  refine hK5 _ _ _ ?_
  refine W.seq (fun K6 hK6 => ?_)
  refine W.region ?_
  refine O.ex (Ex.move rfl) rfl ?_
  refine O.callF Tryd.call11 rfl rfl (CT.mono (qPut_ct (rk := [2, 0, 1]) (s := 4) hr (by decide) (Holds.to (by assumption))) ?_)
  rintro _ w ⟨rfl, H⟩
  rw [show pset [2, 0, 1] 4 2 = 6 by decide] at H
  refine O.ex (Ex.assign rfl) rfl ?_
  refine O.nil ?_
  refine hK6 _ _ _ ?_
  refine W.seq (fun K7 hK7 => ?_)
  refine W.region ?_
  refine O.ex (Ex.move rfl) rfl ?_
  refine O.callF Tryd.call11 rfl rfl (CT.mono (qPut_ct (rk := [2, 0, 1]) (s := 6) hr (by decide) (Holds.to (by assumption))) ?_)
  rintro _ w ⟨rfl, H⟩
  rw [show pset [2, 0, 1] 6 2 = 6 by decide] at H
  refine O.ex (Ex.assign rfl) rfl ?_
  refine O.nil ?_
  refine hK7 _ _ _ ?_
  refine W.seq (fun K8 hK8 => ?_)
  refine W.region ?_
  refine O.ex (Ex.move rfl) rfl ?_
  refine O.callF Tryd.call11 rfl rfl (CT.mono (qPut_ct (rk := [2, 0, 1]) (s := 6) hr (by decide) (Holds.to (by assumption))) ?_)
  rintro _ w ⟨rfl, H⟩
  rw [show pset [2, 0, 1] 6 3 = 6 by decide] at H
  refine O.ex (Ex.assign rfl) rfl ?_
  refine O.nil ?_
  refine hK8 _ _ _ ?_
  refine W.seq (fun K9 hK9 => ?_)
  refine W.region ?_
  refine O.ex (Ex.move rfl) rfl ?_
  refine O.callF Tryd.call27 rfl rfl (CT.mono (qFirst_ct (rk := [2, 0, 1]) (s := 6) hT hr hs (Holds.to (by assumption))) ?_)
  rintro _ w ⟨rfl, H⟩
  refine O.ex (Ex.move rfl) rfl ?_
  refine O.ex (Ex.extract rfl rfl) rfl ?_
  refine O.ex (Ex.extract rfl rfl) rfl ?_
  refine O.ex (Ex.assign rfl) rfl ?_
  refine O.ex (Ex.assign rfl) rfl ?_
  refine O.nil ?_
  refine hK9 _ _ _ ?_
  refine W.seq (fun K10 hK10 => ?_)
  refine W.region ?_
  refine O.ex (Ex.move rfl) rfl ?_
  refine O.ex (Ex.eqlI rfl rfl) rfl ?_
  refine O.ex (Ex.move rfl) rfl ?_
  refine O.known (t := 46) (c := true) rfl (by first | rfl | decide) ?_
  refine O.guard_t rfl rfl ?_
  refine O.ex (Ex.move rfl) rfl ?_
  refine O.guard_t rfl rfl ?_
  refine O.ex (Ex.eqlI rfl rfl) rfl ?_
  refine O.ex (Ex.pick_t rfl rfl) rfl ?_
  refine O.ex (Ex.move rfl) rfl ?_
  refine O.known (t := 50) (c := true) rfl (by first | rfl | decide) ?_
  refine O.guard_t rfl rfl ?_
  refine O.ex (Ex.move rfl) rfl ?_
  refine O.guard_t rfl rfl ?_
  refine O.ex (Ex.eqlI rfl rfl) rfl ?_
  refine O.ex (Ex.pick_t rfl rfl) rfl ?_
  refine O.ex (Ex.move rfl) rfl ?_
  refine O.known (t := 54) (c := true) rfl (by first | rfl | decide) ?_
  refine O.guard_t rfl rfl ?_
  refine O.ex (Ex.move rfl) rfl ?_
  refine O.guard_t rfl rfl ?_
  refine O.ex (Ex.eqlI rfl rfl) rfl ?_
  refine O.ex (Ex.pick_t rfl rfl) rfl ?_
  refine O.ex (Ex.move rfl) rfl ?_
  refine O.known (t := 58) (c := true) rfl (by first | rfl | decide) ?_
  refine O.guard_t rfl rfl ?_
  refine O.ex (Ex.move rfl) rfl ?_
  refine O.guard_t rfl rfl ?_
  refine O.ex (Ex.eqlI rfl rfl) rfl ?_
  refine O.ex (Ex.pick_t rfl rfl) rfl ?_
  refine O.ex (Ex.move rfl) rfl ?_
  refine O.known (t := 62) (c := true) rfl (by first | rfl | decide) ?_
  refine O.guard_t rfl rfl ?_
  refine O.ex (Ex.move rfl) rfl ?_
  refine O.ex (Ex.pick_t rfl rfl) rfl ?_
  refine O.ex (Ex.move rfl) rfl ?_
  refine O.known (t := 65) (c := true) rfl (by first | rfl | decide) ?_
  refine O.guard_t rfl rfl ?_
  refine O.ex (Ex.move rfl) rfl ?_
  refine O.guard_t rfl rfl ?_
  refine O.callF Tryd.call17 rfl rfl (CT.mono (qFloor_ct (rk := [2, 0, 1]) (s := 6) hT (by decide) (Holds.to (by assumption))) ?_)
  rintro _ w ⟨rfl, H⟩
  refine O.guard_t rfl rfl ?_
  refine O.ex (Ex.eqlI rfl rfl) rfl ?_
  refine O.ex (Ex.pick_t rfl rfl) rfl ?_
  refine O.ex (Ex.move rfl) rfl ?_
  refine O.known (t := 70) (c := true) rfl (by first | rfl | decide) ?_
  refine O.guard_t rfl rfl ?_
  refine O.ex (Ex.move rfl) rfl ?_
  refine O.guard_t rfl rfl ?_
  refine O.callF Tryd.call18 rfl rfl (CT.mono (qSet_ct (rk := [2, 0, 1]) (s := 6) hT hr hs (Holds.to (by assumption))) ?_)
  rintro _ w ⟨rfl, H⟩
  refine O.guard_t rfl rfl ?_
  refine O.ex (Ex.eql64 _ 5 rfl rfl) rfl ?_
  refine O.ex (Ex.pick_t rfl rfl) rfl ?_
  refine O.ex (Ex.assign rfl) rfl ?_
  refine O.nil ?_
  refine hK10 _ _ _ ?_
  refine W.ret ?_
  try dsimp only [thenQ, blockQ, retQ]
  first | refine ⟨_, ⟨_, _, rfl, rfl, rfl⟩, ?_⟩ | (refine retD_mark ?_; intro w H; refine ⟨_, ⟨_, _, rfl, rfl, rfl⟩, ?_⟩) | (refine retD_mark2 ?_; intro w H; refine ⟨_, ⟨_, _, rfl, rfl, rfl⟩, ?_⟩)
  exact ⟨by first | rfl | exact congrArg Value.bool (by decide), Holds.to (by assumption)⟩
end Go.Proofs.YtgbhccpjpimgfaaDoor
