import Derived.Test.YtikdblejkmaloaaDoorBitsSplit
namespace Go.Proofs.YtikdblejkmaloaaDoor
open Go.Rr Go
set_option linter.unusedVariables false
theorem mem_lstI (s i : Nat) (h : i < 64) : ((i : Int) ∈ lstI s) ↔ s.testBit i = true := by
  unfold lstI
  rw [List.mem_map]
  constructor
  · rintro ⟨a, ha, e⟩
    have e' : a = i := Int.ofNat.inj e
    exact e' ▸ ((mem_lst s a).1 ha).2
  · exact fun hb => ⟨i, (mem_lst s i).2 ⟨h, hb⟩, rfl⟩
theorem with_law (s : Nat) (x : Int) (hs : s < 18446744073709551616) : (s ||| bitN x) = ofL (lstI s ++ [x]) :=
  set_eq _ _ (or_lt _ _ hs (bitN_lt x)) (ofL_lt _) fun i hi => by
    rw [with_bit s x i hi, ofL_bit _ i hi, Bool.eq_iff_iff]
    simp only [Bool.or_eq_true, decide_eq_true_eq, List.mem_append, List.mem_singleton, mem_lstI s i hi]
theorem without_law (s : Nat) (x : Int) (hs : s < 18446744073709551616) : (s &&& (18446744073709551615 - bitN x)) = ofL ((lstI s).filter fun y => decide (y ≠ x)) :=
  set_eq _ _ (and_lt _ _ hs) (ofL_lt _) fun i hi => by
    rw [without_bit s x i hi, ofL_bit _ i hi, Bool.eq_iff_iff]
    simp only [Bool.and_eq_true, decide_eq_true_eq, List.mem_filter, mem_lstI s i hi, Bool.not_eq_true', decide_eq_false_iff_not, ne_eq]
theorem fst_law (s : Nat) (hs : s < 18446744073709551616) : (s ≠ 0 ∧ 0 < (lstI s).length ∧ (lstI s).getD 0 default = fstS s) ∨ (s = 0 ∧ (lstI s).length = 0) := by
  by_cases h : s = 0
  · exact .inr ⟨h, by rw [h, lstI, lst_zero]; rfl⟩
  · refine .inl ⟨h, ?_, ?_⟩
    · rw [lstI, lst_cons s h hs]; simp
    · rw [lstI, lst_cons s h hs]; unfold fstS; rw [if_neg h]; rfl
theorem filt_t (xs : List Int) (i : Nat) (x : Int) (h : i < xs.length) (hx : xs.getD i default ≠ x) : (xs.take (i + 1)).filter (fun y => decide (y ≠ x)) = (xs.take i).filter (fun y => decide (y ≠ x)) ++ [xs.getD i default] := by
  rw [take_get xs i h, List.filter_append]
  congr 1
  exact List.filter_cons_of_pos (by simpa using hx)
theorem filt_f (xs : List Int) (i : Nat) (x : Int) (h : i < xs.length) (hx : ¬ xs.getD i default ≠ x) : (xs.take (i + 1)).filter (fun y => decide (y ≠ x)) = (xs.take i).filter (fun y => decide (y ≠ x)) := by
  rw [take_get xs i h, List.filter_append]
  have : [xs.getD i default].filter (fun y => decide (y ≠ x)) = [] := List.filter_cons_of_neg (by simpa using hx)
  rw [this, List.append_nil]
set_option maxHeartbeats 1000000 in
theorem bitsTells_ct {w0 : World} {m x : Int} (hT : TabAt w0) (hm : (Lit.int .u64 m).wf = true) (hx : (Lit.int .i64 x).wf = true) :
    CT Tryd.prog 5 [.int .u64 m, .int .i64 x] w0 fun u w' => u = .bool true ∧ RowKit.Below w0.heap.size w0 w' := by
  have H := Holds.base_refl w0
  obtain ⟨s, rfl, hs⟩ := u64_nat hm
  have hle := lstI_le s
  have hpl : pop s = (lstI s).length := by rw [pop_len, lstI_len]
  have hc := fst_law s hs
  have hn1 : (lstI s ++ [x]).length ≤ 9223372036854775807 := by rw [List.length_append, List.length_singleton]; omega
  have hn2 : ((lstI s).filter fun y => decide (y ≠ x)).length ≤ 9223372036854775807 := Nat.le_trans (List.length_filter_le _ _) (by omega)
  have ho := or_lt s (bitN x) hs (bitN_lt x)
  have ha := and_lt s (18446744073709551615 - bitN x) hs
  have hf1 := ofL_lt (lstI s ++ [x])
  have hf2 := ofL_lt ((lstI s).filter fun y => decide (y ≠ x))
  refine CT.enter (N := 105) Tryd.func5 rfl rfl rfl rfl ?_
  refine W.seq (fun K0 hK0 => ?_)
  refine W.region ?_
  refine O.ex (Ex.assign rfl) rfl ?_
  refine O.nil ?_
  refine hK0 _ _ _ ?_
  refine W.seq (fun K1 hK1 => ?_)
  refine W.seq (fun K2 hK2 => ?_)
  refine W.region ?_
  refine O.callF Tryd.call8 rfl rfl (CT.mono (awake03_ct hT (Holds.to (by assumption))) ?_)
  rintro _ w ⟨rfl, H⟩
  refine O.ex (by first | exact Ex.notD rfl | exact Ex.not rfl) rfl ?_
  refine O.nil ?_
  refine hK2 _ _ _ ?_
  refine W.known_f rfl (by first | rfl | decide | exact decide_eq_false (fun hh => hh e1.symm) | (refine decide_eq_false (fun hh => hh ?_); unfold fstS; rw [if_pos h1]) | exact decide_eq_false (fun hh => hh rfl) | (refine decide_eq_false ?_; omega) | exact decide_eq_true (with_law s x hs)) ?_
  refine W.skip ?_
  refine hK1 _ _ _ ?_
  refine W.seq (fun K3 hK3 => ?_)
  refine W.region ?_
  refine O.ex (Ex.move rfl) rfl ?_
  refine O.ex (Ex.assign rfl) rfl ?_
  refine O.nil ?_
  refine hK3 _ _ _ ?_
  refine W.seq (fun K4 hK4 => ?_)
  refine W.region ?_
  refine O.ex (Ex.move rfl) rfl ?_
  refine O.callF Tryd.call12 rfl rfl (CT.mono (refList_ct (Holds.to (by assumption)) hs) ?_)
  rintro _ w ⟨hva, H⟩
  rename_i v16
  refine O.ex (Ex.assign rfl) rfl ?_
  refine O.nil ?_
  refine hK4 _ _ _ ?_
  refine W.seq (fun K5 hK5 => ?_)
  refine W.region ?_
  refine O.ex (Ex.move rfl) rfl ?_
  refine O.callF Tryd.call10 rfl rfl (CT.mono (first_ct hT (Holds.to (by assumption)) hs) ?_)
  rintro _ w ⟨rfl, H⟩
  refine O.ex (Ex.move rfl) rfl ?_
  refine O.ex (Ex.extract rfl rfl) rfl ?_
  refine O.ex (Ex.extract rfl rfl) rfl ?_
  refine O.ex (Ex.assign rfl) rfl ?_
  refine O.ex (Ex.assign rfl) rfl ?_
  refine O.nil ?_
  refine hK5 _ _ _ ?_
  refine W.seq (fun K6 hK6 => ?_)
  refine W.seq (fun K7 hK7 => ?_)
  refine W.region ?_
  rcases hc with ⟨h1, h2, e1⟩ | ⟨h1, h2⟩
  · rw [show decide (s ≠ 0) = true from decide_eq_true h1]
    refine O.ex (Ex.move rfl) rfl ?_
    refine O.ex (Ex.move rfl) rfl ?_
    refine O.ex (by first | exact Ex.lenR Tryd.runUnderlying30 rfl | exact Ex.lenIn Tryd.runUnderlying30 rfl | exact Ex.lenL Tryd.runUnderlying30 rfl | exact Ex.len rfl Tryd.runUnderlying30 rfl) rfl ?_
    refine O.ex (Ex.gtr rfl rfl) rfl ?_
    rw [show decide ((0 : Int) < ((lstI s).length : Int)) = true from decide_eq_true (by omega)]
    refine O.ex (Ex.neqB Tryd.runUnderlying4 rfl rfl) rfl ?_
    refine O.ex (Ex.move rfl) rfl ?_
    refine O.known (t := 27) (c := false) rfl (by first | rfl | decide | exact decide_eq_false (fun hh => hh e1.symm) | (refine decide_eq_false (fun hh => hh ?_); unfold fstS; rw [if_pos h1]) | exact decide_eq_false (fun hh => hh rfl) | (refine decide_eq_false ?_; omega) | exact decide_eq_true (with_law s x hs)) ?_
    refine O.guard_t rfl rfl ?_
    refine O.ex (Ex.move rfl) rfl ?_
    refine O.guard_t rfl rfl ?_
    refine O.ex (Ex.move rfl) rfl ?_
    refine O.known (t := 29) (c := true) rfl (by first | rfl | decide | exact decide_eq_false (fun hh => hh e1.symm) | (refine decide_eq_false (fun hh => hh ?_); unfold fstS; rw [if_pos h1]) | exact decide_eq_false (fun hh => hh rfl) | (refine decide_eq_false ?_; omega) | exact decide_eq_true (with_law s x hs)) ?_
    refine O.guard_t rfl rfl ?_
    refine O.ex (Ex.move rfl) rfl ?_
    refine O.guard_t rfl rfl ?_
    refine O.ex (Ex.move rfl) rfl ?_
    refine O.guard_t rfl rfl ?_
    refine O.ex (by first | exact Ex.idxR Tryd.runUnderlying30 Tryd.sizeOf3 rfl rfl | exact Ex.idxIn Tryd.runUnderlying30 Tryd.sizeOf3 rfl rfl | exact Ex.idxS Tryd.runUnderlying30 Tryd.sizeOf3 rfl rfl | exact Ex.idx Tryd.runUnderlying30 Tryd.sizeOf3 rfl rfl (by omega) (by omega)) rfl ?_
    refine O.guard_t rfl rfl ?_
    refine O.ex (by first | exact Ex.loadP Tryd.isAgg3 rfl | exact Ex.loadR Tryd.isAgg3 rfl | exact Ex.loadIn1 Tryd.isAgg3 rfl (Holds.to (by assumption))) rfl ?_
    refine O.guard_t rfl rfl ?_
    refine O.ex (Ex.neqI rfl rfl) rfl ?_
    refine O.guard_t rfl rfl ?_
    refine O.ex (Ex.pick_t rfl rfl) rfl ?_
    refine O.ex (Ex.pick_f rfl rfl) rfl ?_
    refine O.ex (Ex.move rfl) rfl ?_
    refine O.known (t := 37) (c := false) rfl (by first | rfl | decide | exact decide_eq_false (fun hh => hh e1.symm) | (refine decide_eq_false (fun hh => hh ?_); unfold fstS; rw [if_pos h1]) | exact decide_eq_false (fun hh => hh rfl) | (refine decide_eq_false ?_; omega) | exact decide_eq_true (with_law s x hs)) ?_
    refine O.guard_t rfl rfl ?_
    refine O.ex (Ex.move rfl) rfl ?_
    refine O.guard_t rfl rfl ?_
    refine O.ex (by first | exact Ex.notD rfl | exact Ex.not rfl) rfl ?_
    refine O.guard_t rfl rfl ?_
    refine O.ex (Ex.move rfl) rfl ?_
    refine O.known (t := 40) (c := false) rfl (by first | rfl | decide | exact decide_eq_false (fun hh => hh e1.symm) | (refine decide_eq_false (fun hh => hh ?_); unfold fstS; rw [if_pos h1]) | exact decide_eq_false (fun hh => hh rfl) | (refine decide_eq_false ?_; omega) | exact decide_eq_true (with_law s x hs)) ?_
    refine O.guard_f rfl rfl rfl rfl ?_
    refine O.guard_f rfl rfl rfl rfl ?_
    refine O.guard_t rfl rfl ?_
    refine O.ex (Ex.pick_f rfl rfl) rfl ?_
    refine O.ex (Ex.pick_f rfl rfl) rfl ?_
    refine O.nil ?_
    refine hK7 _ _ _ ?_
    refine W.cond_f rfl ?_
    refine W.skip ?_
    refine hK6 _ _ _ ?_
    refine W.seq (fun K8 hK8 => ?_)
    refine W.seq (fun K9 hK9 => ?_)
    refine W.region ?_
    refine O.ex (Ex.move rfl) rfl ?_
    refine O.ex (Ex.move rfl) rfl ?_
    refine O.callF Tryd.call14 rfl rfl (CT.mono (has_ct (Holds.to (by assumption)) hs) ?_)
    rintro _ w ⟨rfl, H⟩
    refine O.ex (Ex.move rfl) rfl ?_
    refine O.ex (Ex.move rfl) rfl ?_
    refine O.callF Tryd.call15 rfl rfl (CT.mono (refHas_ct (Holds.to (by assumption)) hs) ?_)
    rintro _ w ⟨rfl, H⟩
    refine O.ex (Ex.neqB Tryd.runUnderlying4 rfl rfl) rfl ?_
    refine O.ex (Ex.move rfl) rfl ?_
    refine O.known (t := 52) (c := false) rfl (by first | rfl | decide | exact decide_eq_false (fun hh => hh e1.symm) | (refine decide_eq_false (fun hh => hh ?_); unfold fstS; rw [if_pos h1]) | exact decide_eq_false (fun hh => hh rfl) | (refine decide_eq_false ?_; omega) | exact decide_eq_true (with_law s x hs)) ?_
    refine O.guard_t rfl rfl ?_
    refine O.ex (Ex.move rfl) rfl ?_
    refine O.guard_t rfl rfl ?_
    refine O.callF Tryd.call11 rfl rfl (CT.mono (len_ct (Holds.to (by assumption)) hs) ?_)
    rintro _ w ⟨rfl, H⟩
    refine O.guard_t rfl rfl ?_
    refine O.ex (Ex.move rfl) rfl ?_
    refine O.guard_t rfl rfl ?_
    refine O.ex (by first | exact Ex.lenR Tryd.runUnderlying30 rfl | exact Ex.lenIn Tryd.runUnderlying30 rfl | exact Ex.lenL Tryd.runUnderlying30 rfl | exact Ex.len rfl Tryd.runUnderlying30 rfl) rfl ?_
    refine O.guard_t rfl rfl ?_
    refine O.ex (Ex.neqI rfl rfl) rfl ?_
    refine O.ex (Ex.pick_f rfl rfl) rfl ?_
    refine O.ex (Ex.move rfl) rfl ?_
    refine O.known (t := 59) (c := false) rfl (by first | rfl | decide | exact decide_eq_false (fun hh => hh e1.symm) | (refine decide_eq_false (fun hh => hh ?_); unfold fstS; rw [if_pos h1]) | exact decide_eq_false (fun hh => hh rfl) | (refine decide_eq_false ?_; omega) | exact decide_eq_true (with_law s x hs)) ?_
    refine O.guard_t rfl rfl ?_
    refine O.ex (Ex.move rfl) rfl ?_
    refine O.guard_t rfl rfl ?_
    refine O.callF Tryd.call17 rfl rfl (CT.mono (list_ct hT (Holds.to (by assumption)) hs) ?_)
    rintro _ w ⟨hvb, H⟩
    rename_i v61
    refine O.guard_t rfl rfl ?_
    refine O.ex (Ex.move rfl) rfl ?_
    refine O.guard_t rfl rfl ?_
    refine O.callF Tryd.call16 rfl rfl (CT.mono (ints_ct (xs := lstI s) (Holds.to (by assumption)) (by omega)) ?_)
    rintro _ w ⟨rfl, H⟩
    refine O.guard_t rfl rfl ?_
    refine O.ex (by first | exact Ex.notD rfl | exact Ex.not rfl) rfl ?_
    refine O.ex (Ex.pick_f rfl rfl) rfl ?_
    refine O.nil ?_
    refine hK9 _ _ _ ?_
    refine W.known_f rfl (by first | rfl | decide | exact decide_eq_false (fun hh => hh e1.symm) | (refine decide_eq_false (fun hh => hh ?_); unfold fstS; rw [if_pos h1]) | exact decide_eq_false (fun hh => hh rfl) | (refine decide_eq_false ?_; omega) | exact decide_eq_true (with_law s x hs)) ?_
    refine W.skip ?_
    refine hK8 _ _ _ ?_
    refine W.seq (fun K10 hK10 => ?_)
    refine W.region ?_
    refine O.build0 (e := Value.int .i64) Tryd.runUnderlying30 Tryd.sizeOf3 (fun v66 w hv66 H => ?_)
    refine O.ex (Ex.move rfl) rfl ?_
    refine O.appendK Tryd.runUnderlying30 Tryd.typeInfo3 (bt := 8) rfl Tryd.sizeOf3 Tryd.zeroValue3 rfl rfl (fun v68 w hv68 H => ?_)
    rw [List.nil_append] at H
    refine O.ex (Ex.move rfl) rfl ?_
    refine O.build1 (e := Value.int .i64) Tryd.runUnderlying30 Tryd.sizeOf3 Tryd.zeroValue3 rfl (fun v70 w hv70 H => ?_)
    refine O.appendR Tryd.runUnderlying30 Tryd.typeInfo3 (bt := 8) rfl Tryd.sizeOf3 Tryd.zeroValue3 rfl rfl (fun v71 w hv71 H => ?_)
    refine O.callF Tryd.call18 rfl rfl (CT.mono (refOfA_ct (Holds.to (by assumption)) (by assumption)) ?_)
    rintro _ w ⟨rfl, H⟩
    refine O.ex (Ex.assign rfl) rfl ?_
    refine O.nil ?_
    refine hK10 _ _ _ ?_
    refine W.seq (fun K11 hK11 => ?_)
    refine W.region ?_
    refine O.ex (Ex.assign rfl) rfl ?_
    refine O.nil ?_
    refine hK11 _ _ _ ?_
    refine W.seq (fun K12 hK12 => ?_)
    refine W.seq (fun K13 hK13 => ?_)
    refine W.region ?_
    refine O.ex (Ex.assign rfl) rfl ?_
    refine O.nil ?_
    refine hK13 _ _ _ ?_
    refine W.block ?_
    have H := arr_nil (T := 3) (e := Value.int .i64) H
    refine W.loop (σ := Nat × Value) (fun i => [(1, .int .i64 x), (5, .int .u64 (s : Int)), (6, v16), (9, .int .u64 ((ofL (lstI s ++ [x]) : Nat) : Int)), (10, i.2), (11, .int .i64 (i.1 : Int))]) (fun i ds w => ds = [] ∧ i.1 ≤ (lstI s).length ∧ i.2.oneCell' = true ∧ Holds w [arr 3 (Value.int .i64) i.2 (((lstI s).take i.1).filter fun y => decide (y ≠ x)), arr 3 (Value.int .i64) v16 (lstI s), base w0]) (fun i => (lstI s).length - i.1) (0, .slice none 0 0) ⟨rfl, rfl, rfl, rfl, rfl, rfl, trivial⟩ ⟨rfl, by simp, rfl, Holds.to (by assumption)⟩ ?_
    clear H
    rintro ⟨i, vl⟩ _ w ⟨rfl, hi, hvl, H⟩
    dsimp only at hi hvl H
    dsimp only
    have hfl : (((lstI s).take i).filter fun y => decide (y ≠ x)).length ≤ 64 := Nat.le_trans (List.length_filter_le _ _) (by rw [List.length_take]; omega)
    refine W.seq (fun K14 hK14 => ?_)
    refine W.seq (fun K15 hK15 => ?_)
    refine W.region ?_
    refine O.ex (Ex.move rfl) rfl ?_
    refine O.ex (Ex.move rfl) rfl ?_
    refine O.ex (by first | exact Ex.lenR Tryd.runUnderlying30 rfl | exact Ex.lenIn Tryd.runUnderlying30 rfl | exact Ex.lenL Tryd.runUnderlying30 rfl | exact Ex.len rfl Tryd.runUnderlying30 rfl) rfl ?_
    refine O.ex (Ex.lss rfl rfl) rfl ?_
    refine O.nil ?_
    refine hK15 _ _ _ ?_
    first | refine W.cond_p rfl (fun hlt => ?_) (fun hge => ?_) | refine W.cond_b rfl (fun hlt => ?_) (fun hge => ?_)
    · refine W.skip ?_
      refine hK14 _ _ _ ?_
      refine W.seq (fun K16 hK16 => ?_)
      refine W.block ?_
      refine W.seq (fun K17 hK17 => ?_)
      refine W.region ?_
      refine O.ex (Ex.move rfl) rfl ?_
      refine O.ex (Ex.move rfl) rfl ?_
      refine O.ex (by first | exact Ex.idxR Tryd.runUnderlying30 Tryd.sizeOf3 rfl rfl | exact Ex.idxIn Tryd.runUnderlying30 Tryd.sizeOf3 rfl rfl | exact Ex.idxS Tryd.runUnderlying30 Tryd.sizeOf3 rfl rfl | exact Ex.idx Tryd.runUnderlying30 Tryd.sizeOf3 rfl rfl (by omega) (by omega)) rfl ?_
      refine O.ex (by first | exact Ex.loadP Tryd.isAgg3 rfl | exact Ex.loadR Tryd.isAgg3 rfl | exact Ex.loadIn1 Tryd.isAgg3 rfl (Holds.to (by assumption))) rfl ?_
      refine O.ex (Ex.move rfl) rfl ?_
      refine O.ex (Ex.neqI rfl rfl) rfl ?_
      refine O.nil ?_
      refine hK17 _ _ _ ?_
      first | refine W.cond_p rfl (fun hne => ?_) (fun heq => ?_) | refine W.cond_b rfl (fun hne => ?_) (fun heq => ?_)
      · refine W.region ?_
        refine O.ex (Ex.move rfl) rfl ?_
        refine O.ex (Ex.move rfl) rfl ?_
        refine O.ex (Ex.move rfl) rfl ?_
        refine O.ex (by first | exact Ex.idxR Tryd.runUnderlying30 Tryd.sizeOf3 rfl rfl | exact Ex.idxIn Tryd.runUnderlying30 Tryd.sizeOf3 rfl rfl | exact Ex.idxS Tryd.runUnderlying30 Tryd.sizeOf3 rfl rfl | exact Ex.idx Tryd.runUnderlying30 Tryd.sizeOf3 rfl rfl (by omega) (by omega)) rfl ?_
        refine O.ex (by first | exact Ex.loadP Tryd.isAgg3 rfl | exact Ex.loadR Tryd.isAgg3 rfl | exact Ex.loadIn1 Tryd.isAgg3 rfl (Holds.to (by assumption))) rfl ?_
        refine O.build1 (e := Value.int .i64) Tryd.runUnderlying30 Tryd.sizeOf3 Tryd.zeroValue3 rfl (fun v90 w hv90 H => ?_)
        refine O.appendR Tryd.runUnderlying30 Tryd.typeInfo3 (bt := 8) rfl Tryd.sizeOf3 Tryd.zeroValue3 rfl rfl (fun v91 w hv91 H => ?_)
        refine O.ex (Ex.assign rfl) rfl ?_
        refine O.nil ?_
        refine hK16 _ _ _ ?_
        refine W.region ?_
        refine O.ex (Ex.move rfl) rfl ?_
        refine O.ex (by first | exact Ex.addI rfl rfl | exact Ex.add rfl rfl rfl) rfl ?_
        refine O.ex (Ex.assign rfl) rfl ?_
        refine O.nil ?_
        first
        | exact ⟨(i + 1, _), ⟨rfl, rfl, rfl, rfl, rfl, rfl, trivial⟩, ⟨rfl, by dsimp only; omega, by assumption, by rw [filt_t (lstI s) i x (by omega) hne, show (lstI s).getD i default = (lstI s).getD ((i : Nat) : Int).toNat default from rfl]; exact Holds.to (by assumption)⟩, by dsimp only; omega⟩
        | exact ⟨(i + 1, _), ⟨rfl, rfl, rfl, rfl, rfl, rfl, trivial⟩, ⟨rfl, by dsimp only; omega, by assumption, by rw [filt_f (lstI s) i x (by omega) heq]; exact Holds.to (by assumption)⟩, by dsimp only; omega⟩
      · refine W.skip ?_
        refine hK16 _ _ _ ?_
        refine W.region ?_
        refine O.ex (Ex.move rfl) rfl ?_
        refine O.ex (by first | exact Ex.addI rfl rfl | exact Ex.add rfl rfl rfl) rfl ?_
        refine O.ex (Ex.assign rfl) rfl ?_
        refine O.nil ?_
        first
        | exact ⟨(i + 1, _), ⟨rfl, rfl, rfl, rfl, rfl, rfl, trivial⟩, ⟨rfl, by dsimp only; omega, by assumption, by rw [filt_t (lstI s) i x (by omega) hne, show (lstI s).getD i default = (lstI s).getD ((i : Nat) : Int).toNat default from rfl]; exact Holds.to (by assumption)⟩, by dsimp only; omega⟩
        | exact ⟨(i + 1, _), ⟨rfl, rfl, rfl, rfl, rfl, rfl, trivial⟩, ⟨rfl, by dsimp only; omega, by assumption, by rw [filt_f (lstI s) i x (by omega) heq]; exact Holds.to (by assumption)⟩, by dsimp only; omega⟩
    · refine W.exit ?_
      refine hK12 _ _ _ ?_
      refine W.seq (fun K18 hK18 => ?_)
      refine W.region ?_
      obtain rfl : i = (lstI s).length := by omega
      rw [List.take_length] at H
      refine O.ex (Ex.move rfl) rfl ?_
      refine O.ex (Ex.move rfl) rfl ?_
      refine O.callF Tryd.call19 rfl rfl (CT.mono (with_ct (Holds.to (by assumption)) hs) ?_)
      rintro _ w ⟨rfl, H⟩
      refine O.ex (Ex.move rfl) rfl ?_
      refine O.ex (Ex.eql64 _ _ rfl rfl) rfl ?_
      refine O.ex (Ex.move rfl) rfl ?_
      refine O.known (t := 97) (c := true) rfl (by first | rfl | decide | exact decide_eq_false (fun hh => hh e1.symm) | (refine decide_eq_false (fun hh => hh ?_); unfold fstS; rw [if_pos h1]) | exact decide_eq_false (fun hh => hh rfl) | (refine decide_eq_false ?_; omega) | exact decide_eq_true (with_law s x hs)) ?_
      refine O.guard_t rfl rfl ?_
      refine O.ex (Ex.move rfl) rfl ?_
      refine O.guard_t rfl rfl ?_
      refine O.ex (Ex.move rfl) rfl ?_
      refine O.guard_t rfl rfl ?_
      refine O.callF Tryd.call20 rfl rfl (CT.mono (without_ct (Holds.to (by assumption)) hs) ?_)
      rintro _ w ⟨rfl, H⟩
      refine O.guard_t rfl rfl ?_
      refine O.ex (Ex.move rfl) rfl ?_
      refine O.guard_t rfl rfl ?_
      refine O.callF Tryd.call18 rfl rfl (CT.mono (refOfA_ct (Holds.to (by assumption)) (by assumption)) ?_)
      rintro _ w ⟨rfl, H⟩
      refine O.guard_t rfl rfl ?_
      refine O.ex (Ex.eql64 _ _ rfl rfl) rfl ?_
      refine O.ex (Ex.pick_t rfl rfl) rfl ?_
      refine O.ex (Ex.assign rfl) rfl ?_
      refine O.nil ?_
      refine hK18 _ _ _ ?_
      refine W.ret ?_
      try dsimp only [thenQ, blockQ, retQ]
      first | refine ⟨_, ⟨_, _, rfl, rfl, rfl⟩, ?_⟩ | (refine retD_mark ?_; intro w H; refine ⟨_, ⟨_, _, rfl, rfl, rfl⟩, ?_⟩) | (refine retD_mark2 ?_; intro w H; refine ⟨_, ⟨_, _, rfl, rfl, rfl⟩, ?_⟩)
      exact ⟨congrArg Value.bool (decide_eq_true (without_law s x hs)), Holds.base_below (L := []) (Holds.to (by assumption))⟩
  · rw [show decide (s ≠ 0) = false from decide_eq_false (fun h => h h1)]
    refine O.ex (Ex.move rfl) rfl ?_
    refine O.ex (Ex.move rfl) rfl ?_
    refine O.ex (by first | exact Ex.lenR Tryd.runUnderlying30 rfl | exact Ex.lenIn Tryd.runUnderlying30 rfl | exact Ex.lenL Tryd.runUnderlying30 rfl | exact Ex.len rfl Tryd.runUnderlying30 rfl) rfl ?_
    refine O.ex (Ex.gtr rfl rfl) rfl ?_
    rw [show decide ((0 : Int) < ((lstI s).length : Int)) = false from decide_eq_false (by omega)]
    refine O.ex (Ex.neqB Tryd.runUnderlying4 rfl rfl) rfl ?_
    refine O.ex (Ex.move rfl) rfl ?_
    refine O.known (t := 27) (c := false) rfl (by first | rfl | decide | exact decide_eq_false (fun hh => hh e1.symm) | (refine decide_eq_false (fun hh => hh ?_); unfold fstS; rw [if_pos h1]) | exact decide_eq_false (fun hh => hh rfl) | (refine decide_eq_false ?_; omega) | exact decide_eq_true (with_law s x hs)) ?_
    refine O.guard_t rfl rfl ?_
    refine O.ex (Ex.move rfl) rfl ?_
    refine O.guard_t rfl rfl ?_
    refine O.ex (Ex.move rfl) rfl ?_
    refine O.known (t := 29) (c := false) rfl (by first | rfl | decide | exact decide_eq_false (fun hh => hh e1.symm) | (refine decide_eq_false (fun hh => hh ?_); unfold fstS; rw [if_pos h1]) | exact decide_eq_false (fun hh => hh rfl) | (refine decide_eq_false ?_; omega) | exact decide_eq_true (with_law s x hs)) ?_
    refine O.guard_f rfl rfl rfl rfl ?_
    refine O.guard_f rfl rfl rfl rfl ?_
    refine O.guard_f rfl rfl rfl rfl ?_
    refine O.guard_f rfl rfl rfl rfl ?_
    refine O.guard_f rfl rfl rfl rfl ?_
    refine O.guard_t rfl rfl ?_
    refine O.ex (Ex.pick_f rfl rfl) rfl ?_
    refine O.ex (Ex.pick_f rfl rfl) rfl ?_
    refine O.ex (Ex.move rfl) rfl ?_
    refine O.guard_t rfl rfl ?_
    refine O.ex (Ex.move rfl) rfl ?_
    refine O.guard_t rfl rfl ?_
    refine O.ex (by first | exact Ex.notD rfl | exact Ex.not rfl) rfl ?_
    refine O.guard_t rfl rfl ?_
    refine O.ex (Ex.move rfl) rfl ?_
    refine O.known (t := 40) (c := true) rfl (by first | rfl | decide | exact decide_eq_false (fun hh => hh e1.symm) | (refine decide_eq_false (fun hh => hh ?_); unfold fstS; rw [if_pos h1]) | exact decide_eq_false (fun hh => hh rfl) | (refine decide_eq_false ?_; omega) | exact decide_eq_true (with_law s x hs)) ?_
    refine O.guard_t rfl rfl ?_
    refine O.ex (Ex.move rfl) rfl ?_
    refine O.guard_t rfl rfl ?_
    refine O.ex (Ex.neqI rfl rfl) rfl ?_
    refine O.guard_t rfl rfl ?_
    refine O.ex (Ex.pick_t rfl rfl) rfl ?_
    refine O.ex (Ex.pick_f rfl rfl) rfl ?_
    refine O.nil ?_
    refine hK7 _ _ _ ?_
    refine W.known_f rfl (by first | rfl | decide | exact decide_eq_false (fun hh => hh e1.symm) | (refine decide_eq_false (fun hh => hh ?_); unfold fstS; rw [if_pos h1]) | exact decide_eq_false (fun hh => hh rfl) | (refine decide_eq_false ?_; omega) | exact decide_eq_true (with_law s x hs)) ?_
    refine W.skip ?_
    refine hK6 _ _ _ ?_
    refine W.seq (fun K19 hK19 => ?_)
    refine W.seq (fun K20 hK20 => ?_)
    refine W.region ?_
    refine O.ex (Ex.move rfl) rfl ?_
    refine O.ex (Ex.move rfl) rfl ?_
    refine O.callF Tryd.call14 rfl rfl (CT.mono (has_ct (Holds.to (by assumption)) hs) ?_)
    rintro _ w ⟨rfl, H⟩
    refine O.ex (Ex.move rfl) rfl ?_
    refine O.ex (Ex.move rfl) rfl ?_
    refine O.callF Tryd.call15 rfl rfl (CT.mono (refHas_ct (Holds.to (by assumption)) hs) ?_)
    rintro _ w ⟨rfl, H⟩
    refine O.ex (Ex.neqB Tryd.runUnderlying4 rfl rfl) rfl ?_
    refine O.ex (Ex.move rfl) rfl ?_
    refine O.known (t := 52) (c := false) rfl (by first | rfl | decide | exact decide_eq_false (fun hh => hh e1.symm) | (refine decide_eq_false (fun hh => hh ?_); unfold fstS; rw [if_pos h1]) | exact decide_eq_false (fun hh => hh rfl) | (refine decide_eq_false ?_; omega) | exact decide_eq_true (with_law s x hs)) ?_
    refine O.guard_t rfl rfl ?_
    refine O.ex (Ex.move rfl) rfl ?_
    refine O.guard_t rfl rfl ?_
    refine O.callF Tryd.call11 rfl rfl (CT.mono (len_ct (Holds.to (by assumption)) hs) ?_)
    rintro _ w ⟨rfl, H⟩
    refine O.guard_t rfl rfl ?_
    refine O.ex (Ex.move rfl) rfl ?_
    refine O.guard_t rfl rfl ?_
    refine O.ex (by first | exact Ex.lenR Tryd.runUnderlying30 rfl | exact Ex.lenIn Tryd.runUnderlying30 rfl | exact Ex.lenL Tryd.runUnderlying30 rfl | exact Ex.len rfl Tryd.runUnderlying30 rfl) rfl ?_
    refine O.guard_t rfl rfl ?_
    refine O.ex (Ex.neqI rfl rfl) rfl ?_
    refine O.ex (Ex.pick_f rfl rfl) rfl ?_
    refine O.ex (Ex.move rfl) rfl ?_
    refine O.known (t := 59) (c := false) rfl (by first | rfl | decide | exact decide_eq_false (fun hh => hh e1.symm) | (refine decide_eq_false (fun hh => hh ?_); unfold fstS; rw [if_pos h1]) | exact decide_eq_false (fun hh => hh rfl) | (refine decide_eq_false ?_; omega) | exact decide_eq_true (with_law s x hs)) ?_
    refine O.guard_t rfl rfl ?_
    refine O.ex (Ex.move rfl) rfl ?_
    refine O.guard_t rfl rfl ?_
    refine O.callF Tryd.call17 rfl rfl (CT.mono (list_ct hT (Holds.to (by assumption)) hs) ?_)
    rintro _ w ⟨hvb, H⟩
    rename_i v61
    refine O.guard_t rfl rfl ?_
    refine O.ex (Ex.move rfl) rfl ?_
    refine O.guard_t rfl rfl ?_
    refine O.callF Tryd.call16 rfl rfl (CT.mono (ints_ct (xs := lstI s) (Holds.to (by assumption)) (by omega)) ?_)
    rintro _ w ⟨rfl, H⟩
    refine O.guard_t rfl rfl ?_
    refine O.ex (by first | exact Ex.notD rfl | exact Ex.not rfl) rfl ?_
    refine O.ex (Ex.pick_f rfl rfl) rfl ?_
    refine O.nil ?_
    refine hK20 _ _ _ ?_
    refine W.known_f rfl (by first | rfl | decide | exact decide_eq_false (fun hh => hh e1.symm) | (refine decide_eq_false (fun hh => hh ?_); unfold fstS; rw [if_pos h1]) | exact decide_eq_false (fun hh => hh rfl) | (refine decide_eq_false ?_; omega) | exact decide_eq_true (with_law s x hs)) ?_
    refine W.skip ?_
    refine hK19 _ _ _ ?_
    refine W.seq (fun K21 hK21 => ?_)
    refine W.region ?_
    refine O.build0 (e := Value.int .i64) Tryd.runUnderlying30 Tryd.sizeOf3 (fun v66 w hv66 H => ?_)
    refine O.ex (Ex.move rfl) rfl ?_
    refine O.appendK Tryd.runUnderlying30 Tryd.typeInfo3 (bt := 8) rfl Tryd.sizeOf3 Tryd.zeroValue3 rfl rfl (fun v68 w hv68 H => ?_)
    rw [List.nil_append] at H
    refine O.ex (Ex.move rfl) rfl ?_
    refine O.build1 (e := Value.int .i64) Tryd.runUnderlying30 Tryd.sizeOf3 Tryd.zeroValue3 rfl (fun v70 w hv70 H => ?_)
    refine O.appendR Tryd.runUnderlying30 Tryd.typeInfo3 (bt := 8) rfl Tryd.sizeOf3 Tryd.zeroValue3 rfl rfl (fun v71 w hv71 H => ?_)
    refine O.callF Tryd.call18 rfl rfl (CT.mono (refOfA_ct (Holds.to (by assumption)) (by assumption)) ?_)
    rintro _ w ⟨rfl, H⟩
    refine O.ex (Ex.assign rfl) rfl ?_
    refine O.nil ?_
    refine hK21 _ _ _ ?_
    refine W.seq (fun K22 hK22 => ?_)
    refine W.region ?_
    refine O.ex (Ex.assign rfl) rfl ?_
    refine O.nil ?_
    refine hK22 _ _ _ ?_
    refine W.seq (fun K23 hK23 => ?_)
    refine W.seq (fun K24 hK24 => ?_)
    refine W.region ?_
    refine O.ex (Ex.assign rfl) rfl ?_
    refine O.nil ?_
    refine hK24 _ _ _ ?_
    refine W.block ?_
    have H := arr_nil (T := 3) (e := Value.int .i64) H
    refine W.loop (σ := Nat × Value) (fun i => [(1, .int .i64 x), (5, .int .u64 (s : Int)), (6, v16), (9, .int .u64 ((ofL (lstI s ++ [x]) : Nat) : Int)), (10, i.2), (11, .int .i64 (i.1 : Int))]) (fun i ds w => ds = [] ∧ i.1 ≤ (lstI s).length ∧ i.2.oneCell' = true ∧ Holds w [arr 3 (Value.int .i64) i.2 (((lstI s).take i.1).filter fun y => decide (y ≠ x)), arr 3 (Value.int .i64) v16 (lstI s), base w0]) (fun i => (lstI s).length - i.1) (0, .slice none 0 0) ⟨rfl, rfl, rfl, rfl, rfl, rfl, trivial⟩ ⟨rfl, by simp, rfl, Holds.to (by assumption)⟩ ?_
    clear H
    rintro ⟨i, vl⟩ _ w ⟨rfl, hi, hvl, H⟩
    dsimp only at hi hvl H
    dsimp only
    have hfl : (((lstI s).take i).filter fun y => decide (y ≠ x)).length ≤ 64 := Nat.le_trans (List.length_filter_le _ _) (by rw [List.length_take]; omega)
    refine W.seq (fun K25 hK25 => ?_)
    refine W.seq (fun K26 hK26 => ?_)
    refine W.region ?_
    refine O.ex (Ex.move rfl) rfl ?_
    refine O.ex (Ex.move rfl) rfl ?_
    refine O.ex (by first | exact Ex.lenR Tryd.runUnderlying30 rfl | exact Ex.lenIn Tryd.runUnderlying30 rfl | exact Ex.lenL Tryd.runUnderlying30 rfl | exact Ex.len rfl Tryd.runUnderlying30 rfl) rfl ?_
    refine O.ex (Ex.lss rfl rfl) rfl ?_
    refine O.nil ?_
    refine hK26 _ _ _ ?_
    first | refine W.cond_p rfl (fun hlt => ?_) (fun hge => ?_) | refine W.cond_b rfl (fun hlt => ?_) (fun hge => ?_)
    · refine W.skip ?_
      refine hK25 _ _ _ ?_
      refine W.seq (fun K27 hK27 => ?_)
      refine W.block ?_
      refine W.seq (fun K28 hK28 => ?_)
      refine W.region ?_
      refine O.ex (Ex.move rfl) rfl ?_
      refine O.ex (Ex.move rfl) rfl ?_
      refine O.ex (by first | exact Ex.idxR Tryd.runUnderlying30 Tryd.sizeOf3 rfl rfl | exact Ex.idxIn Tryd.runUnderlying30 Tryd.sizeOf3 rfl rfl | exact Ex.idxS Tryd.runUnderlying30 Tryd.sizeOf3 rfl rfl | exact Ex.idx Tryd.runUnderlying30 Tryd.sizeOf3 rfl rfl (by omega) (by omega)) rfl ?_
      refine O.ex (by first | exact Ex.loadP Tryd.isAgg3 rfl | exact Ex.loadR Tryd.isAgg3 rfl | exact Ex.loadIn1 Tryd.isAgg3 rfl (Holds.to (by assumption))) rfl ?_
      refine O.ex (Ex.move rfl) rfl ?_
      refine O.ex (Ex.neqI rfl rfl) rfl ?_
      refine O.nil ?_
      refine hK28 _ _ _ ?_
      first | refine W.cond_p rfl (fun hne => ?_) (fun heq => ?_) | refine W.cond_b rfl (fun hne => ?_) (fun heq => ?_)
      · refine W.region ?_
        refine O.ex (Ex.move rfl) rfl ?_
        refine O.ex (Ex.move rfl) rfl ?_
        refine O.ex (Ex.move rfl) rfl ?_
        refine O.ex (by first | exact Ex.idxR Tryd.runUnderlying30 Tryd.sizeOf3 rfl rfl | exact Ex.idxIn Tryd.runUnderlying30 Tryd.sizeOf3 rfl rfl | exact Ex.idxS Tryd.runUnderlying30 Tryd.sizeOf3 rfl rfl | exact Ex.idx Tryd.runUnderlying30 Tryd.sizeOf3 rfl rfl (by omega) (by omega)) rfl ?_
        refine O.ex (by first | exact Ex.loadP Tryd.isAgg3 rfl | exact Ex.loadR Tryd.isAgg3 rfl | exact Ex.loadIn1 Tryd.isAgg3 rfl (Holds.to (by assumption))) rfl ?_
        refine O.build1 (e := Value.int .i64) Tryd.runUnderlying30 Tryd.sizeOf3 Tryd.zeroValue3 rfl (fun v90 w hv90 H => ?_)
        refine O.appendR Tryd.runUnderlying30 Tryd.typeInfo3 (bt := 8) rfl Tryd.sizeOf3 Tryd.zeroValue3 rfl rfl (fun v91 w hv91 H => ?_)
        refine O.ex (Ex.assign rfl) rfl ?_
        refine O.nil ?_
        refine hK27 _ _ _ ?_
        refine W.region ?_
        refine O.ex (Ex.move rfl) rfl ?_
        refine O.ex (by first | exact Ex.addI rfl rfl | exact Ex.add rfl rfl rfl) rfl ?_
        refine O.ex (Ex.assign rfl) rfl ?_
        refine O.nil ?_
        first
        | exact ⟨(i + 1, _), ⟨rfl, rfl, rfl, rfl, rfl, rfl, trivial⟩, ⟨rfl, by dsimp only; omega, by assumption, by rw [filt_t (lstI s) i x (by omega) hne, show (lstI s).getD i default = (lstI s).getD ((i : Nat) : Int).toNat default from rfl]; exact Holds.to (by assumption)⟩, by dsimp only; omega⟩
        | exact ⟨(i + 1, _), ⟨rfl, rfl, rfl, rfl, rfl, rfl, trivial⟩, ⟨rfl, by dsimp only; omega, by assumption, by rw [filt_f (lstI s) i x (by omega) heq]; exact Holds.to (by assumption)⟩, by dsimp only; omega⟩
      · refine W.skip ?_
        refine hK27 _ _ _ ?_
        refine W.region ?_
        refine O.ex (Ex.move rfl) rfl ?_
        refine O.ex (by first | exact Ex.addI rfl rfl | exact Ex.add rfl rfl rfl) rfl ?_
        refine O.ex (Ex.assign rfl) rfl ?_
        refine O.nil ?_
        first
        | exact ⟨(i + 1, _), ⟨rfl, rfl, rfl, rfl, rfl, rfl, trivial⟩, ⟨rfl, by dsimp only; omega, by assumption, by rw [filt_t (lstI s) i x (by omega) hne, show (lstI s).getD i default = (lstI s).getD ((i : Nat) : Int).toNat default from rfl]; exact Holds.to (by assumption)⟩, by dsimp only; omega⟩
        | exact ⟨(i + 1, _), ⟨rfl, rfl, rfl, rfl, rfl, rfl, trivial⟩, ⟨rfl, by dsimp only; omega, by assumption, by rw [filt_f (lstI s) i x (by omega) heq]; exact Holds.to (by assumption)⟩, by dsimp only; omega⟩
    · refine W.exit ?_
      refine hK23 _ _ _ ?_
      refine W.seq (fun K29 hK29 => ?_)
      refine W.region ?_
      obtain rfl : i = (lstI s).length := by omega
      rw [List.take_length] at H
      refine O.ex (Ex.move rfl) rfl ?_
      refine O.ex (Ex.move rfl) rfl ?_
      refine O.callF Tryd.call19 rfl rfl (CT.mono (with_ct (Holds.to (by assumption)) hs) ?_)
      rintro _ w ⟨rfl, H⟩
      refine O.ex (Ex.move rfl) rfl ?_
      refine O.ex (Ex.eql64 _ _ rfl rfl) rfl ?_
      refine O.ex (Ex.move rfl) rfl ?_
      refine O.known (t := 97) (c := true) rfl (by first | rfl | decide | exact decide_eq_false (fun hh => hh e1.symm) | (refine decide_eq_false (fun hh => hh ?_); unfold fstS; rw [if_pos h1]) | exact decide_eq_false (fun hh => hh rfl) | (refine decide_eq_false ?_; omega) | exact decide_eq_true (with_law s x hs)) ?_
      refine O.guard_t rfl rfl ?_
      refine O.ex (Ex.move rfl) rfl ?_
      refine O.guard_t rfl rfl ?_
      refine O.ex (Ex.move rfl) rfl ?_
      refine O.guard_t rfl rfl ?_
      refine O.callF Tryd.call20 rfl rfl (CT.mono (without_ct (Holds.to (by assumption)) hs) ?_)
      rintro _ w ⟨rfl, H⟩
      refine O.guard_t rfl rfl ?_
      refine O.ex (Ex.move rfl) rfl ?_
      refine O.guard_t rfl rfl ?_
      refine O.callF Tryd.call18 rfl rfl (CT.mono (refOfA_ct (Holds.to (by assumption)) (by assumption)) ?_)
      rintro _ w ⟨rfl, H⟩
      refine O.guard_t rfl rfl ?_
      refine O.ex (Ex.eql64 _ _ rfl rfl) rfl ?_
      refine O.ex (Ex.pick_t rfl rfl) rfl ?_
      refine O.ex (Ex.assign rfl) rfl ?_
      refine O.nil ?_
      refine hK29 _ _ _ ?_
      refine W.ret ?_
      try dsimp only [thenQ, blockQ, retQ]
      first | refine ⟨_, ⟨_, _, rfl, rfl, rfl⟩, ?_⟩ | (refine retD_mark ?_; intro w H; refine ⟨_, ⟨_, _, rfl, rfl, rfl⟩, ?_⟩) | (refine retD_mark2 ?_; intro w H; refine ⟨_, ⟨_, _, rfl, rfl, rfl⟩, ?_⟩)
      exact ⟨congrArg Value.bool (decide_eq_true (without_law s x hs)), Holds.base_below (L := []) (Holds.to (by assumption))⟩
end Go.Proofs.YtikdblejkmaloaaDoor
