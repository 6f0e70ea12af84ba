import Derived.Test.YtakmbbgnnbpkoaaLed
--ARR
--INF
--DEEP
--LOADS loadRN
namespace Go.Proofs.Ytakmbbgnnbpkoaa
open Go.Rr Go Gr
set_option linter.unusedVariables false
set_option maxHeartbeats 4000000 in
theorem walkJoins_ct {w0 : World} {q f : Int} {lv av bv : Value} {l : List Chg} {as1 bs1 : List Int} (hq : (Lit.int .u8 q).wf = true) (hx : SlIn w0 6 Chg.enc lv l) (hl : l.length ≤ 9223372036854775807) (hf : (Lit.int .u8 f).wf = true)
    (ha : SlIn w0 1 (fun s : Int => [.int .u8 s]) av as1) (hab : ∀ x ∈ as1, (Lit.int .u8 x).wf = true) (hb : SlIn w0 1 (fun s : Int => [.int .u8 s]) bv bs1) (hbb : ∀ x ∈ bs1, (Lit.int .u8 x).wf = true) :
    CT Try.prog 10 [.int .u8 q, lv, .int .u8 f, av, bv] w0 fun x w' => x = .bool true ∧ RowKit.Below w0.heap.size w0 w' := by
  obtain ⟨q0, q1⟩ := bounds_u8 hq
  obtain ⟨f0, f1⟩ := bounds_u8 hf
  have H := Holds.base_refl w0
  refine CT.enter (N := 100) Try.func10 rfl rfl rfl rfl ?_
  refine W.seq (fun K0 hK0 => ?_)
  refine W.region ?_
  refine O.ex (Ex.assign rfl) rfl ?_
  refine O.nil ?_
  refine hK0 _ _ _ ?_
  refine W.seq (fun K1 hK1 => ?_)
  refine W.seq (fun K2 hK2 => ?_)
  refine W.region ?_
  refine O.callF Try.call39 rfl rfl (CT.mono (awake09_ct (Holds.to (by assumption))) ?_)
  rintro _ w ⟨rfl, H⟩
  refine O.ex (by first | exact Ex.notD rfl | exact Ex.not rfl) rfl ?_
  refine O.nil ?_
  refine hK2 _ _ _ ?_
  refine W.known_f rfl (by first | exact decide_eq_true rfl | rfl | decide | exact decide_eq_true hk1 | exact decide_eq_true hk2) ?_
  refine W.skip ?_
  refine hK1 _ _ _ ?_
  refine W.seq (fun K3 hK3 => ?_)
  refine W.region ?_
  refine O.ex (Ex.move rfl) rfl ?_
  refine O.ex (Ex.move rfl) rfl ?_
  refine O.callF Try.call18 rfl rfl (CT.mono (made08_ct hq hx hl (Holds.to (M := base w0 :: _) (by assumption))) ?_)
  rintro _ w ⟨g, r, hg, rfl, H⟩
  refine O.ex (Ex.move rfl) rfl ?_
  refine O.ex (Ex.extract rfl rfl) rfl ?_
  refine O.ex (Ex.extract rfl rfl) rfl ?_
  refine O.ex (Ex.assign rfl) rfl ?_
  refine O.ex (Ex.assign rfl) rfl ?_
  refine O.nil ?_
  refine hK3 _ _ _ ?_
  refine W.seq (fun K4 hK4 => ?_)
  refine W.seq (fun K5 hK5 => ?_)
  refine W.region ?_
  refine O.ex (Ex.move rfl) rfl ?_
  refine O.ex (Ex.nilEq Try.runUnderlying24 rfl rfl) rfl ?_
  refine O.nil ?_
  refine hK5 _ _ _ ?_
  refine W.known_f rfl (by first | exact decide_eq_true rfl | rfl | decide | exact decide_eq_true hk1 | exact decide_eq_true hk2) ?_
  refine W.skip ?_
  refine hK4 _ _ _ ?_
  refine W.seq (fun K6 hK6 => ?_)
  refine W.seq (fun K7 hK7 => ?_)
  refine W.region ?_
  refine O.ex (Ex.move rfl) rfl ?_
  refine O.ex (by first | exact Ex.lenR Try.runUnderlying75 rfl | exact Ex.lenIn Try.runUnderlying75 rfl | exact Ex.lenL Try.runUnderlying75 rfl | exact Ex.len rfl Try.runUnderlying75 rfl) rfl ?_
  refine O.ex (Ex.gtr rfl rfl) rfl ?_
  refine O.ex (Ex.move rfl) rfl ?_
  first | refine O.split_p (t := 31) rfl (fun hA => ?_) (fun hB => ?_) | refine O.split (t := 31) rfl (fun hA => ?_) (fun hB => ?_)
  · refine O.guard_f rfl rfl rfl rfl ?_
    refine O.guard_f rfl rfl rfl rfl ?_
    refine O.guard_f rfl rfl rfl rfl ?_
    refine O.ex (Ex.pick_t rfl rfl) rfl ?_
    refine O.nil ?_
    refine hK7 _ _ _ ?_
    refine W.cond_t rfl ?_
    refine W.seq (fun K8 hK8 => ?_)
    refine W.region ?_
    refine O.ex (Ex.assign rfl) rfl ?_
    refine O.nil ?_
    refine hK8 _ _ _ ?_
    refine W.ret ?_
    try dsimp only [thenQ, blockQ, retQ]
    first | refine ⟨_, ⟨_, _, rfl, rfl, rfl⟩, ?_⟩ | (refine retD_mark ?_; intro w H; refine ⟨_, ⟨_, _, rfl, rfl, rfl⟩, ?_⟩) | (refine retD_mark2 ?_; intro w H; refine ⟨_, ⟨_, _, rfl, rfl, rfl⟩, ?_⟩)
    exact ⟨by first | rfl | exact congrArg Value.bool (decide_eq_true hsum), Holds.base_below (L := []) (Holds.to (by assumption))⟩
  · refine O.guard_t rfl rfl ?_
    refine O.ex (Ex.move rfl) rfl ?_
    refine O.guard_t rfl rfl ?_
    refine O.ex (by first | exact Ex.lenR Try.runUnderlying75 rfl | exact Ex.lenIn Try.runUnderlying75 rfl | exact Ex.lenL Try.runUnderlying75 rfl | exact Ex.len rfl Try.runUnderlying75 rfl) rfl ?_
    refine O.guard_t rfl rfl ?_
    refine O.ex (Ex.gtr rfl rfl) rfl ?_
    refine O.ex (Ex.pick_f rfl rfl) rfl ?_
    refine O.nil ?_
    refine hK7 _ _ _ ?_
    first | refine W.cond_p rfl (fun hC => ?_) (fun hD => ?_) | refine W.cond_b rfl (fun hC => ?_) (fun hD => ?_)
    · refine W.seq (fun K9 hK9 => ?_)
      refine W.region ?_
      refine O.ex (Ex.assign rfl) rfl ?_
      refine O.nil ?_
      refine hK9 _ _ _ ?_
      refine W.ret ?_
      try dsimp only [thenQ, blockQ, retQ]
      first | refine ⟨_, ⟨_, _, rfl, rfl, rfl⟩, ?_⟩ | (refine retD_mark ?_; intro w H; refine ⟨_, ⟨_, _, rfl, rfl, rfl⟩, ?_⟩) | (refine retD_mark2 ?_; intro w H; refine ⟨_, ⟨_, _, rfl, rfl, rfl⟩, ?_⟩)
      exact ⟨by first | rfl | exact congrArg Value.bool (decide_eq_true hsum), Holds.base_below (L := []) (Holds.to (by assumption))⟩
    · refine W.skip ?_
      refine hK6 _ _ _ ?_
      refine W.seq (fun K10 hK10 => ?_)
      refine W.region ?_
      obtain ⟨n, hn⟩ : ∃ n, n = 1 + q % 24 := ⟨_, rfl⟩
      rw [← hn] at hg H
      have n1 : 1 ≤ n := by omega
      obtain ⟨s, hs⟩ : ∃ s, s = doAll n 64 noS (l.take 150) := ⟨_, rfl⟩
      rw [← hs] at hg H
      have hv : vxW n (f % n) := ⟨Int.emod_nonneg _ (by omega), Int.emod_lt_of_pos _ (by omega)⟩
      refine O.ex (Ex.move rfl) rfl ?_
      refine O.ex (Ex.move rfl) rfl ?_
      refine O.ex (by first | exact Ex.convToI Try.runUnderlying5 Try.runUnderlying3 rfl | exact Ex.convW Try.runUnderlying5 Try.runUnderlying3 rfl) rfl ?_
      refine O.ex (Ex.move rfl) rfl ?_
      refine O.ex (by first | exact Ex.nilPtr rfl | exact Ex.nilFunc rfl | exact Ex.nilYield rfl) rfl ?_
      refine O.ex (by first | exact Ex.field0 fld54_0 rfl | exact Ex.field fld54_0 rfl | exact Ex.fieldS fld54_0 rfl | exact Ex.fieldIn fld54_0 rfl) rfl ?_
      refine O.ex (by first | exact Ex.loadRN Try.isAgg3 rfl | exact Ex.loadMh Try.isAgg3 rfl | exact Ex.loadInF Try.isAgg3 rfl (Holds.to (by assumption)) | exact Ex.loadP Try.isAgg3 rfl | exact Ex.loadM Try.isAgg3 rfl | exact Ex.loadIn1 Try.isAgg3 rfl (Holds.to (by assumption)) | exact Ex.loadVc Try.isAgg3 rfl | exact Ex.loadR Try.isAgg3 rfl | exact Ex.loadQ Try.isAgg3 rfl) rfl ?_
      refine O.ex (by first | exact Ex.remI rfl rfl | exact Ex.rem rfl rfl (by omega) rfl) rfl ?_
      refine O.ex (Ex.move rfl) rfl ?_
      refine O.callF Try.call49 rfl rfl (CT.mono (led_ct (r := r) hg ha hab (by omega) (Holds.to (by assumption))) ?_)
      rintro _ w ⟨x, xs, rfl, hx1, hxl, hc1, H⟩
      refine O.ex (Ex.move rfl) rfl ?_
      refine O.ex (Ex.extract rfl rfl) rfl ?_
      refine O.ex (Ex.extract rfl rfl) rfl ?_
      refine O.ex (Ex.assign rfl) rfl ?_
      refine O.ex (Ex.assign rfl) rfl ?_
      refine O.nil ?_
      refine hK10 _ _ _ ?_
      refine W.seq (fun K11 hK11 => ?_)
      refine W.region ?_
      refine O.ex (Ex.move rfl) rfl ?_
      refine O.ex (Ex.move rfl) rfl ?_
      refine O.ex (Ex.move rfl) rfl ?_
      refine O.callF Try.call49 rfl rfl (CT.mono (led_ct (r := r) hg hb hbb (by omega) (Holds.to (by assumption))) ?_)
      rintro _ w ⟨y, ys, rfl, hy1, hyl, hc2, H⟩
      refine O.ex (Ex.move rfl) rfl ?_
      refine O.ex (Ex.extract rfl rfl) rfl ?_
      refine O.ex (Ex.extract rfl rfl) rfl ?_
      refine O.ex (Ex.assign rfl) rfl ?_
      refine O.ex (Ex.assign rfl) rfl ?_
      refine O.nil ?_
      refine hK11 _ _ _ ?_
      refine W.seq (fun K12 hK12 => ?_)
      refine W.region ?_
      have hnil : ([] : List Int).length = 0 := rfl
      have hnx : ([] ++ xs).length = xs.length := by simp
      have hj := wrun_join (ys := ys) hc1
      have hv2 := end_rng hg hv hc1
      have hc3 : (wrun s (f % n) (xs ++ ys)).2.2 = 0 := by rw [hj]; exact hc2
      have hk1 := ccode_ok hg hv hc1
      have hk2 : ccode n s (f % n) (wrun s (wrun s (f % n) xs).2.1 ys).2.1 ([] ++ xs ++ ys) = 0 := by
        rw [← hj, List.nil_append]; exact ccode_ok hg hv hc3
      have ht1 : ∀ id ∈ xs, thB s id = true := fun id hi => by
        obtain ⟨h1, h2, _⟩ := all_th xs _ rfl hc1 id hi
        rw [thB_at h1]; exact h2
      have ht2 : ∀ id ∈ ys, thB s id = true := fun id hi => by
        obtain ⟨h1, h2, _⟩ := all_th ys _ rfl hc2 id hi
        rw [thB_at h1]; exact h2
      have hd1 : Dst (srun s xs).1 := srun_dst hg xs (0, true) ⟨by omega, by omega⟩
      have hd2 : Dst (srun s ys).1 := srun_dst hg ys (0, true) ⟨by omega, by omega⟩
      have hsum : (srun s ([] ++ xs ++ ys)).1 = two (srun s xs).1 (srun s ys).1 := by rw [List.nil_append]; exact srun_join hg ht1 ht2
      have hlen : ([] ++ xs ++ ys).length ≤ 200 := by rw [List.nil_append, List.length_append]; omega
      refine O.build0 (e := Value.int .i64) Try.runUnderlying37 Try.sizeOf3 (fun v56 w hv56 H => ?_)
      refine O.ex (Ex.move rfl) rfl ?_
      refine O.appendK Try.runUnderlying37 Try.typeInfo3 (bt := 8) rfl Try.sizeOf3 Try.zeroValue3 rfl rfl (fun v58 w hv58 H => ?_)
      refine O.ex (Ex.move rfl) rfl ?_
      refine O.appendK Try.runUnderlying37 Try.typeInfo3 (bt := 8) rfl Try.sizeOf3 Try.zeroValue3 rfl rfl (fun v60 w hv60 H => ?_)
      refine O.ex (Ex.assign rfl) rfl ?_
      refine O.nil ?_
      refine hK12 _ _ _ ?_
      refine W.seq (fun K13 hK13 => ?_)
      refine W.region ?_
      refine O.ex (Ex.move rfl) rfl ?_
      refine O.ex (Ex.move rfl) rfl ?_
      refine O.ex (by first | exact Ex.convToI Try.runUnderlying5 Try.runUnderlying3 rfl | exact Ex.convW Try.runUnderlying5 Try.runUnderlying3 rfl) rfl ?_
      refine O.ex (Ex.move rfl) rfl ?_
      refine O.ex (by first | exact Ex.nilPtr rfl | exact Ex.nilFunc rfl | exact Ex.nilYield rfl) rfl ?_
      refine O.ex (by first | exact Ex.field0 fld54_0 rfl | exact Ex.field fld54_0 rfl | exact Ex.fieldS fld54_0 rfl | exact Ex.fieldIn fld54_0 rfl) rfl ?_
      refine O.ex (by first | exact Ex.loadRN Try.isAgg3 rfl | exact Ex.loadMh Try.isAgg3 rfl | exact Ex.loadInF Try.isAgg3 rfl (Holds.to (by assumption)) | exact Ex.loadP Try.isAgg3 rfl | exact Ex.loadM Try.isAgg3 rfl | exact Ex.loadIn1 Try.isAgg3 rfl (Holds.to (by assumption)) | exact Ex.loadVc Try.isAgg3 rfl | exact Ex.loadR Try.isAgg3 rfl | exact Ex.loadQ Try.isAgg3 rfl) rfl ?_
      refine O.ex (by first | exact Ex.remI rfl rfl | exact Ex.rem rfl rfl (by omega) rfl) rfl ?_
      refine O.ex (Ex.move rfl) rfl ?_
      refine O.ex (Ex.move rfl) rfl ?_
      refine O.callF Try.call40 rfl rfl (CT.mono (wcheck_ct (g := g) (S := arr 3 (Value.int .i64) x xs) hg Rd.ofArr (by omega) (Holds.to (by assumption))) ?_)
      rintro _ w ⟨rfl, H⟩
      refine O.ex (Ex.eqlI rfl rfl) rfl ?_
      refine O.ex (Ex.move rfl) rfl ?_
      refine O.known (t := 73) (c := true) rfl (by first | exact decide_eq_true rfl | rfl | decide | exact decide_eq_true hk1 | exact decide_eq_true hk2) ?_
      refine O.guard_t rfl rfl ?_
      refine O.ex (Ex.move rfl) rfl ?_
      refine O.guard_t rfl rfl ?_
      refine O.ex (Ex.move rfl) rfl ?_
      refine O.guard_t rfl rfl ?_
      refine O.ex (by first | exact Ex.convToI Try.runUnderlying5 Try.runUnderlying3 rfl | exact Ex.convW Try.runUnderlying5 Try.runUnderlying3 rfl) rfl ?_
      refine O.guard_t rfl rfl ?_
      refine O.ex (Ex.move rfl) rfl ?_
      refine O.guard_t rfl rfl ?_
      refine O.ex (by first | exact Ex.nilPtr rfl | exact Ex.nilFunc rfl | exact Ex.nilYield rfl) rfl ?_
      refine O.guard_t rfl rfl ?_
      refine O.ex (by first | exact Ex.field0 fld54_0 rfl | exact Ex.field fld54_0 rfl | exact Ex.fieldS fld54_0 rfl | exact Ex.fieldIn fld54_0 rfl) rfl ?_
      refine O.guard_t rfl rfl ?_
      refine O.ex (by first | exact Ex.loadRN Try.isAgg3 rfl | exact Ex.loadMh Try.isAgg3 rfl | exact Ex.loadInF Try.isAgg3 rfl (Holds.to (by assumption)) | exact Ex.loadP Try.isAgg3 rfl | exact Ex.loadM Try.isAgg3 rfl | exact Ex.loadIn1 Try.isAgg3 rfl (Holds.to (by assumption)) | exact Ex.loadVc Try.isAgg3 rfl | exact Ex.loadR Try.isAgg3 rfl | exact Ex.loadQ Try.isAgg3 rfl) rfl ?_
      refine O.guard_t rfl rfl ?_
      refine O.ex (by first | exact Ex.remI rfl rfl | exact Ex.rem rfl rfl (by omega) rfl) rfl ?_
      refine O.guard_t rfl rfl ?_
      refine O.ex (Ex.move rfl) rfl ?_
      refine O.guard_t rfl rfl ?_
      refine O.ex (Ex.move rfl) rfl ?_
      refine O.guard_t rfl rfl ?_
      refine O.callF Try.call40 rfl rfl (CT.mono (wcheck_ct (g := g) (S := arr 3 (Value.int .i64) v60 ([] ++ xs ++ ys)) hg Rd.ofArr hlen (Holds.to (by assumption))) ?_)
      rintro _ w ⟨rfl, H⟩
      refine O.guard_t rfl rfl ?_
      refine O.ex (Ex.eqlI rfl rfl) rfl ?_
      refine O.ex (Ex.pick_t rfl rfl) rfl ?_
      refine O.ex (Ex.move rfl) rfl ?_
      refine O.known (t := 87) (c := true) rfl (by first | exact decide_eq_true rfl | rfl | decide | exact decide_eq_true hk1 | exact decide_eq_true hk2) ?_
      refine O.guard_t rfl rfl ?_
      refine O.ex (Ex.move rfl) rfl ?_
      refine O.guard_t rfl rfl ?_
      refine O.ex (Ex.move rfl) rfl ?_
      refine O.guard_t rfl rfl ?_
      refine O.callF Try.call42 rfl rfl (CT.mono (wsum_ct (g := g) (S := arr 3 (Value.int .i64) v60 ([] ++ xs ++ ys)) hg Rd.ofArr hlen (Holds.to (by assumption))) ?_)
      rintro _ w ⟨rfl, H⟩
      refine O.guard_t rfl rfl ?_
      refine O.ex (Ex.move rfl) rfl ?_
      refine O.guard_t rfl rfl ?_
      refine O.ex (Ex.move rfl) rfl ?_
      refine O.guard_t rfl rfl ?_
      refine O.callF Try.call42 rfl rfl (CT.mono (wsum_ct (g := g) (S := arr 3 (Value.int .i64) x xs) hg Rd.ofArr (by omega) (Holds.to (by assumption))) ?_)
      rintro _ w ⟨rfl, H⟩
      refine O.guard_t rfl rfl ?_
      refine O.ex (Ex.move rfl) rfl ?_
      refine O.guard_t rfl rfl ?_
      refine O.ex (Ex.move rfl) rfl ?_
      refine O.guard_t rfl rfl ?_
      refine O.callF Try.call42 rfl rfl (CT.mono (wsum_ct (g := g) (S := arr 3 (Value.int .i64) y ys) hg Rd.ofArr (by omega) (Holds.to (by assumption))) ?_)
      rintro _ w ⟨rfl, H⟩
      refine O.guard_t rfl rfl ?_
      refine O.callF Try.call50 rfl rfl (CT.mono (refTwo_ct (Holds.to (by assumption)) hd1 hd2) ?_)
      rintro _ w ⟨rfl, H⟩
      refine O.guard_t rfl rfl ?_
      refine O.ex (Ex.eqlI rfl rfl) rfl ?_
      refine O.ex (Ex.pick_t rfl rfl) rfl ?_
      refine O.ex (Ex.assign rfl) rfl ?_
      refine O.nil ?_
      refine hK13 _ _ _ ?_
      refine W.ret ?_
      try dsimp only [thenQ, blockQ, retQ]
      first | refine ⟨_, ⟨_, _, rfl, rfl, rfl⟩, ?_⟩ | (refine retD_mark ?_; intro w H; refine ⟨_, ⟨_, _, rfl, rfl, rfl⟩, ?_⟩) | (refine retD_mark2 ?_; intro w H; refine ⟨_, ⟨_, _, rfl, rfl, rfl⟩, ?_⟩)
      exact ⟨by first | rfl | exact congrArg Value.bool (decide_eq_true hsum), Holds.base_below (L := []) (Holds.to (by assumption))⟩
theorem walkJoins_row {w0 : World} {q f : Int} {lv av bv : Value} {l : List Chg} {as1 bs1 : List Int} (hq : (Lit.int .u8 q).wf = true) (hx : SlIn w0 6 Chg.enc lv l) (hg : ∀ x ∈ l, x.ok) (hl : l.length ≤ maxLen) (hf : (Lit.int .u8 f).wf = true)
    (ha : SlIn w0 1 (fun s : Int => [.int .u8 s]) av as1) (hab : ∀ x ∈ as1, (Lit.int .u8 x).wf = true) (hal : as1.length ≤ maxLen) (hb : SlIn w0 1 (fun s : Int => [.int .u8 s]) bv bs1) (hbb : ∀ x ∈ bs1, (Lit.int .u8 x).wf = true) (hbl : bs1.length ≤ maxLen) :
    CT Try.prog 10 [.int .u8 q, lv, .int .u8 f, av, bv] w0 fun x w' => x = .bool true ∧ RowKit.Below w0.heap.size w0 w' :=
  walkJoins_ct hq hx (by unfold maxLen at hl; omega) hf ha hab hb hbb
end Go.Proofs.Ytakmbbgnnbpkoaa
