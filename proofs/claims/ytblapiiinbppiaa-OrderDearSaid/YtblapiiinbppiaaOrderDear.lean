import Derived.Test.YtblapiiinbppiaaOrderNeeds
--ARR
namespace Go.Proofs.Ytblapiiinbppiaa
open Go.Rr Go Hp Wt
set_option linter.unusedVariables false
theorem stop_ex {n : Int} {c : Int → Int → Int} (hg : Good n c) (s0 wo : Nat) (settles most : Int) : ∃ j, to n.toNat c s0 wo settles most j ∧ stopP n.toNat c s0 wo settles most j := by
  rcases Classical.em (∃ j, to n.toNat c s0 wo settles most j ∧ stopP n.toNat c s0 wo settles most j) with h | h
  · exact h
  · exfalso
    have all : ∀ j, to n.toNat c s0 wo settles most j := fun j => by
      induction j with
      | zero => exact to_zero _ _
      | succ j ih => exact to_succ ih fun hs => h ⟨j, ih, hs⟩
    have := to_le hg (all (n.toNat + 1))
    omega
theorem spB_mono {n : Int} {c : Int → Int → Int} (hg : Good n c) {u v x a b : Int} (hab : a ≤ b) (h : spB n c u v x a = true) : spB n c u v x b = true := by
  unfold spB at h ⊢
  obtain ⟨i, h1, h2, hx⟩ := @of_decide_eq_true _ (Classical.propDecidable _) h
  obtain ⟨j, h3, h4⟩ := stop_ex hg u.toNat (bitN v) b (two (c u v) (c v x))
  exact @decide_eq_true _ (Classical.propDecidable _) ⟨j, h3, h4, more_in hab h1 h3 h4 hx⟩
theorem needN_mono {n : Int} {c : Int → Int → Int} (hg : Good n c) (v : Int) {a b : Int} (hab : a ≤ b) : needN n c v b ≤ needN n c v a := by
  unfold needN
  rw [← List.countP_eq_length_filter, ← List.countP_eq_length_filter]
  refine List.countP_mono_left fun d _ hd => ?_
  cases ha : spB n c d.t v d.h a with
  | false => rfl
  | true => rw [spB_mono hg hab ha] at hd; exact hd
theorem needN_det (n : Int) (c : Int → Int → Int) (v settles : Int) : needN n c v settles ≤ (detL n c v).length := by
  rw [← needT_all]; exact needT_le _ _ _ _ _
set_option maxHeartbeats 4000000 in
theorem orderDear_ct {w0 : World} {q k few more : Int} {lv : Value} {l : List Step} (hq : (Lit.int .u8 q).wf = true) (hx : SlIn w0 3 Step.enc lv l) (hl : l.length ≤ 9223372036854775807) (hk : (Lit.int .u8 k).wf = true) (hf : (Lit.int .u8 few).wf = true) (hm : (Lit.int .u8 more).wf = true) :
    CT Try.prog 13 [.int .u8 q, lv, .int .u8 k, .int .u8 few, .int .u8 more] w0 fun y w' => y = .bool true ∧ RowKit.Below w0.heap.size w0 w' := by
  have H := Holds.base_refl w0
  obtain ⟨q0, q1⟩ := bounds_u8 hq
  obtain ⟨k0, k1⟩ := bounds_u8 hk
  obtain ⟨f0, f1⟩ := bounds_u8 hf
  obtain ⟨m0, m1⟩ := bounds_u8 hm
  have hq10 := wf_rem10 hq
  refine CT.enter (N := 120) Try.func13 rfl rfl rfl rfl ?_
  refine W.seq (fun K0 hK0 => ?_)
  refine W.region ?_
  refine O.ex (Ex.assign rfl) rfl ?_
  refine O.nil ?_
  refine hK0 _ _ _ ?_
  refine W.seq (fun K1 hK1 => ?_)
  refine W.seq (fun K2 hK2 => ?_)
  refine W.region ?_
  refine O.callF Try.call43 rfl rfl (CT.mono (awake14_ct (Holds.to (by assumption))) ?_)
  rintro _ w ⟨rfl, H⟩
  refine O.ex (by first | exact Ex.notD rfl | exact Ex.not rfl) rfl ?_
  refine O.nil ?_
  refine hK2 _ _ _ ?_
  refine W.known_f rfl (by first | rfl | decide | exact decide_eq_true hmono | exact decide_eq_true hdet | exact decide_eq_true hpos | exact decide_eq_true rfl) ?_
  refine W.skip ?_
  refine hK1 _ _ _ ?_
  refine W.seq (fun K3 hK3 => ?_)
  refine W.region ?_
  refine O.ex (Ex.move rfl) rfl ?_
  refine O.ex (by first | exact Ex.remI rfl rfl | exact Ex.rem rfl rfl (by omega) rfl) rfl ?_
  refine O.ex (Ex.move rfl) rfl ?_
  refine O.callF Try.call16 rfl rfl (CT.mono (made_ct hq10 hx hl (Holds.to (by assumption))) ?_)
  rintro _ w ⟨m, r, n, c, hg, rfl, H⟩
  refine O.ex (Ex.move rfl) rfl ?_
  refine O.ex (Ex.extract rfl rfl) rfl ?_
  refine O.ex (Ex.extract rfl rfl) rfl ?_
  refine O.ex (Ex.assign rfl) rfl ?_
  refine O.ex (Ex.assign rfl) rfl ?_
  refine O.nil ?_
  refine hK3 _ _ _ ?_
  refine W.seq (fun K4 hK4 => ?_)
  refine W.seq (fun K5 hK5 => ?_)
  refine W.region ?_
  refine O.ex (Ex.move rfl) rfl ?_
  refine O.ex (Ex.nilEq Try.runUnderlying25 rfl rfl) rfl ?_
  refine O.nil ?_
  refine hK5 _ _ _ ?_
  refine W.known_f rfl (by first | rfl | decide | exact decide_eq_true hmono | exact decide_eq_true hdet | exact decide_eq_true hpos | exact decide_eq_true rfl) ?_
  refine W.skip ?_
  refine hK4 _ _ _ ?_
  refine W.seq (fun K6 hK6 => ?_)
  refine W.region ?_
  have n1 := hg.n1
  have n2 := hg.n2
  have H := (rh_open (m := r) (n := n) (c := c)).1 (Holds.to (by assumption))
  refine O.ex (Ex.move rfl) rfl ?_
  refine O.ex (by first | exact Ex.convToI Try.runUnderlying5 Try.runUnderlying3 rfl | exact Ex.convW Try.runUnderlying5 Try.runUnderlying3 rfl) rfl ?_
  refine O.ex (Ex.move rfl) rfl ?_
  refine O.ex (by first | exact Ex.nilPtr rfl | exact Ex.nilFunc rfl | exact Ex.nilYield rfl) rfl ?_
  refine O.ex (by first | exact Ex.field0 fld32_0 rfl | exact Ex.field fld32_0 rfl | exact Ex.fieldS fld32_0 rfl) rfl ?_
  refine O.ex (by first | exact Ex.loadMh Try.isAgg3 rfl | exact Ex.loadP Try.isAgg3 rfl | exact Ex.loadM Try.isAgg3 rfl | exact Ex.loadIn1 Try.isAgg3 rfl (Holds.to (by assumption)) | exact Ex.loadVc Try.isAgg3 rfl | exact Ex.loadR Try.isAgg3 rfl | exact Ex.loadQ Try.isAgg3 rfl) rfl ?_
  refine O.ex (by first | exact Ex.remI rfl rfl | exact Ex.rem rfl rfl (by omega) rfl) rfl ?_
  refine O.ex (Ex.assign rfl) rfl ?_
  refine O.nil ?_
  refine hK6 _ _ _ ?_
  refine W.seq (fun K7 hK7 => ?_)
  refine W.region ?_
  have H := (rh_open (m := r) (n := n) (c := c)).2 (Holds.to (by assumption))
  have hv : 0 ≤ k % n ∧ k % n < n := ⟨Int.emod_nonneg _ (by omega), Int.emod_lt_of_pos _ (by omega)⟩
  have hmm : min few more ≤ max few more := by omega
  have hmono : ((needN n c (k % n) (max few more) : Nat) : Int) ≤ ((needN n c (k % n) (min few more) : Nat) : Int) := Int.ofNat_le.2 (needN_mono hg _ hmm)
  have hdet : ((needN n c (k % n) (min few more) : Nat) : Int) ≤ (((detL n c (k % n)).length : Nat) : Int) := Int.ofNat_le.2 (needN_det _ _ _ _)
  have hpos : (0 : Int) ≤ ((needN n c (k % n) (max few more) : Nat) : Int) := Int.natCast_nonneg _
  have hbd := needN_le (v := k % n) (settles := more) hg
  have hs1 := sl_le (fun x => c (k % n) x) n.toNat
  have hs2 := sl_le (fun x => c x (k % n)) n.toNat
  refine O.ex (Ex.move rfl) rfl ?_
  refine O.ex (Ex.move rfl) rfl ?_
  refine O.ex (Ex.move rfl) rfl ?_
  refine O.ex (by first | exact Ex.convToI Try.runUnderlying5 Try.runUnderlying3 rfl | exact Ex.convW Try.runUnderlying5 Try.runUnderlying3 rfl) rfl ?_
  refine O.ex (Ex.move rfl) rfl ?_
  refine O.ex (by first | exact Ex.convToI Try.runUnderlying5 Try.runUnderlying3 rfl | exact Ex.convW Try.runUnderlying5 Try.runUnderlying3 rfl) rfl ?_
  refine O.ex (Ex.minI rfl rfl) rfl ?_
  refine O.callF Try.call44 rfl rfl (CT.mono (needV_ct hg hv (Holds.to (by assumption))) ?_)
  rintro _ w ⟨rfl, H⟩
  refine O.ex (Ex.move rfl) rfl ?_
  refine O.ex (Ex.extract rfl rfl) rfl ?_
  refine O.ex (Ex.extract rfl rfl) rfl ?_
  refine O.ex (Ex.assign rfl) rfl ?_
  refine O.ex (Ex.assign rfl) rfl ?_
  refine O.nil ?_
  refine hK7 _ _ _ ?_
  refine W.seq (fun K8 hK8 => ?_)
  refine W.region ?_
  refine O.ex (Ex.move rfl) rfl ?_
  refine O.ex (Ex.move rfl) rfl ?_
  refine O.ex (Ex.move rfl) rfl ?_
  refine O.ex (by first | exact Ex.convToI Try.runUnderlying5 Try.runUnderlying3 rfl | exact Ex.convW Try.runUnderlying5 Try.runUnderlying3 rfl) rfl ?_
  refine O.ex (Ex.move rfl) rfl ?_
  refine O.ex (by first | exact Ex.convToI Try.runUnderlying5 Try.runUnderlying3 rfl | exact Ex.convW Try.runUnderlying5 Try.runUnderlying3 rfl) rfl ?_
  refine O.ex (Ex.maxI rfl rfl) rfl ?_
  refine O.callF Try.call44 rfl rfl (CT.mono (needV_ct hg hv (Holds.to (by assumption))) ?_)
  rintro _ w ⟨rfl, H⟩
  refine O.ex (Ex.move rfl) rfl ?_
  refine O.ex (Ex.extract rfl rfl) rfl ?_
  refine O.ex (Ex.extract rfl rfl) rfl ?_
  refine O.ex (Ex.assign rfl) rfl ?_
  refine O.ex (Ex.assign rfl) rfl ?_
  refine O.nil ?_
  refine hK8 _ _ _ ?_
  refine W.seq (fun K9 hK9 => ?_)
  refine W.region ?_
  refine O.ex (Ex.move rfl) rfl ?_
  refine O.ex (Ex.move rfl) rfl ?_
  refine O.ex (Ex.move rfl) rfl ?_
  refine O.ex (by first | exact Ex.convToI Try.runUnderlying5 Try.runUnderlying3 rfl | exact Ex.convW Try.runUnderlying5 Try.runUnderlying3 rfl) rfl ?_
  refine O.callF Try.call45 rfl rfl (CT.mono (diffV_ct hg hv (Holds.to (by assumption))) ?_)
  rintro _ w ⟨rfl, H⟩
  refine O.ex (Ex.move rfl) rfl ?_
  refine O.ex (Ex.extract rfl rfl) rfl ?_
  refine O.ex (Ex.extract rfl rfl) rfl ?_
  refine O.ex (Ex.assign rfl) rfl ?_
  refine O.ex (Ex.assign rfl) rfl ?_
  refine O.nil ?_
  refine hK9 _ _ _ ?_
  refine W.seq (fun K10 hK10 => ?_)
  refine W.region ?_
  refine O.ex (Ex.move rfl) rfl ?_
  refine O.ex (Ex.move rfl) rfl ?_
  refine O.ex (Ex.move rfl) rfl ?_
  refine O.ex (by first | exact Ex.convToI Try.runUnderlying5 Try.runUnderlying3 rfl | exact Ex.convW Try.runUnderlying5 Try.runUnderlying3 rfl) rfl ?_
  refine O.callF Try.call44 rfl rfl (CT.mono (needV_ct hg hv (Holds.to (by assumption))) ?_)
  rintro _ w ⟨rfl, H⟩
  refine O.ex (Ex.move rfl) rfl ?_
  refine O.ex (Ex.extract rfl rfl) rfl ?_
  refine O.ex (Ex.extract rfl rfl) rfl ?_
  refine O.ex (Ex.assign rfl) rfl ?_
  refine O.ex (Ex.assign rfl) rfl ?_
  refine O.nil ?_
  refine hK10 _ _ _ ?_
  refine W.seq (fun K11 hK11 => ?_)
  refine W.region ?_
  refine O.ex (Ex.move rfl) rfl ?_
  refine O.ex (Ex.eqlI rfl rfl) rfl ?_
  refine O.ex (Ex.move rfl) rfl ?_
  refine O.known (t := 80) (c := true) rfl (by first | rfl | decide | exact decide_eq_true hmono | exact decide_eq_true hdet | exact decide_eq_true hpos | exact decide_eq_true rfl) ?_
  refine O.guard_t rfl rfl ?_
  refine O.ex (Ex.move rfl) rfl ?_
  refine O.guard_t rfl rfl ?_
  refine O.ex (Ex.eqlI rfl rfl) rfl ?_
  refine O.ex (Ex.pick_t rfl rfl) rfl ?_
  refine O.ex (Ex.move rfl) rfl ?_
  refine O.known (t := 84) (c := true) rfl (by first | rfl | decide | exact decide_eq_true hmono | exact decide_eq_true hdet | exact decide_eq_true hpos | exact decide_eq_true rfl) ?_
  refine O.guard_t rfl rfl ?_
  refine O.ex (Ex.move rfl) rfl ?_
  refine O.guard_t rfl rfl ?_
  refine O.ex (Ex.eqlI rfl rfl) rfl ?_
  refine O.ex (Ex.pick_t rfl rfl) rfl ?_
  refine O.ex (Ex.move rfl) rfl ?_
  refine O.known (t := 88) (c := true) rfl (by first | rfl | decide | exact decide_eq_true hmono | exact decide_eq_true hdet | exact decide_eq_true hpos | exact decide_eq_true rfl) ?_
  refine O.guard_t rfl rfl ?_
  refine O.ex (Ex.move rfl) rfl ?_
  refine O.guard_t rfl rfl ?_
  refine O.ex (Ex.move rfl) rfl ?_
  refine O.guard_t rfl rfl ?_
  refine O.ex (Ex.leq rfl rfl) rfl ?_
  refine O.ex (Ex.pick_t rfl rfl) rfl ?_
  refine O.ex (Ex.move rfl) rfl ?_
  refine O.known (t := 93) (c := true) rfl (by first | rfl | decide | exact decide_eq_true hmono | exact decide_eq_true hdet | exact decide_eq_true hpos | exact decide_eq_true rfl) ?_
  refine O.guard_t rfl rfl ?_
  refine O.ex (Ex.move rfl) rfl ?_
  refine O.guard_t rfl rfl ?_
  refine O.ex (Ex.move rfl) rfl ?_
  refine O.guard_t rfl rfl ?_
  refine O.ex (Ex.move rfl) rfl ?_
  refine O.guard_t rfl rfl ?_
  refine O.callF Try.call27 rfl rfl (CT.mono (detours_ct hg (Holds.to (by assumption))) ?_)
  rintro _ w ⟨hx1, H⟩
  refine O.guard_t rfl rfl ?_
  refine O.ex (by first | exact Ex.lenN Try.runUnderlying48 rfl | exact Ex.lenIn Try.runUnderlying48 rfl | exact Ex.lenL Try.runUnderlying48 rfl | exact Ex.len rfl Try.runUnderlying48 rfl) rfl ?_
  refine O.guard_t rfl rfl ?_
  refine O.ex (Ex.leq rfl rfl) rfl ?_
  refine O.ex (Ex.pick_t rfl rfl) rfl ?_
  refine O.ex (Ex.move rfl) rfl ?_
  refine O.known (t := 101) (c := true) rfl (by first | rfl | decide | exact decide_eq_true hmono | exact decide_eq_true hdet | exact decide_eq_true hpos | exact decide_eq_true rfl) ?_
  refine O.guard_t rfl rfl ?_
  refine O.ex (Ex.move rfl) rfl ?_
  refine O.guard_t rfl rfl ?_
  refine O.ex (Ex.geq rfl rfl) rfl ?_
  refine O.ex (Ex.pick_t rfl rfl) rfl ?_
  refine O.ex (Ex.move rfl) rfl ?_
  refine O.known (t := 105) (c := true) rfl (by first | rfl | decide | exact decide_eq_true hmono | exact decide_eq_true hdet | exact decide_eq_true hpos | exact decide_eq_true rfl) ?_
  refine O.guard_t rfl rfl ?_
  refine O.ex (Ex.move rfl) rfl ?_
  refine O.guard_t rfl rfl ?_
  refine O.ex (Ex.move rfl) rfl ?_
  refine O.guard_t rfl rfl ?_
  refine O.ex (Ex.move rfl) rfl ?_
  refine O.guard_t rfl rfl ?_
  refine O.ex (Ex.move rfl) rfl ?_
  refine O.guard_t rfl rfl ?_
  refine O.callF Try.call48 rfl rfl (CT.mono (refStepsf_ct hg (Holds.to (by assumption))) ?_)
  rintro _ w ⟨hx2, H⟩
  refine O.guard_t rfl rfl ?_
  refine O.ex (by first | exact Ex.lenR Try.runUnderlying51 rfl | exact Ex.lenIn Try.runUnderlying51 rfl | exact Ex.lenL Try.runUnderlying51 rfl | exact Ex.len rfl Try.runUnderlying51 rfl) rfl ?_
  refine O.guard_t rfl rfl ?_
  refine O.ex (by first | exact Ex.subI rfl rfl | exact Ex.sub rfl rfl rfl) rfl ?_
  refine O.guard_t rfl rfl ?_
  refine O.ex (Ex.move rfl) rfl ?_
  refine O.guard_t rfl rfl ?_
  refine O.ex (Ex.move rfl) rfl ?_
  refine O.guard_t rfl rfl ?_
  refine O.callF Try.call48 rfl rfl (CT.mono (refStepst_ct hg (Holds.to (by assumption))) ?_)
  rintro _ w ⟨hx3, H⟩
  refine O.guard_t rfl rfl ?_
  refine O.ex (by first | exact Ex.lenR Try.runUnderlying51 rfl | exact Ex.lenIn Try.runUnderlying51 rfl | exact Ex.lenL Try.runUnderlying51 rfl | exact Ex.len rfl Try.runUnderlying51 rfl) rfl ?_
  refine O.guard_t rfl rfl ?_
  refine O.ex (by first | exact Ex.subI rfl rfl | exact Ex.sub rfl rfl rfl) rfl ?_
  refine O.guard_t rfl rfl ?_
  refine O.ex (Ex.eqlI rfl rfl) rfl ?_
  refine O.ex (Ex.pick_t rfl rfl) rfl ?_
  refine O.ex (Ex.assign rfl) rfl ?_
  refine O.nil ?_
  refine hK11 _ _ _ ?_
  refine W.ret ?_
  try dsimp only [thenQ, blockQ, retQ]
  first | refine ⟨_, ⟨_, _, rfl, rfl, rfl⟩, ?_⟩ | (refine retD_mark ?_; intro w H; refine ⟨_, ⟨_, _, rfl, rfl, rfl⟩, ?_⟩) | (refine retD_mark2 ?_; intro w H; refine ⟨_, ⟨_, _, rfl, rfl, rfl⟩, ?_⟩)
  refine ⟨congrArg Value.bool (decide_eq_true ?_), Holds.base_below (L := []) (Holds.to (by assumption))⟩
  show _ - (((sl (fun x => c (k % n) x) n.toNat).length + (sl (fun x => c x (k % n)) n.toNat).length : Nat) : Int) = _
  omega
theorem orderDear_row {w0 : World} {q k few more : Int} {lv : Value} {l : List Step} (hq : (Lit.int .u8 q).wf = true) (hx : SlIn w0 3 Step.enc lv l) (hg : ∀ x ∈ l, x.ok) (hl : l.length ≤ maxLen) (hk : (Lit.int .u8 k).wf = true) (hf : (Lit.int .u8 few).wf = true) (hm : (Lit.int .u8 more).wf = true) :
    CT Try.prog 13 [.int .u8 q, lv, .int .u8 k, .int .u8 few, .int .u8 more] w0 fun x w' => x = .bool true ∧ RowKit.Below w0.heap.size w0 w' :=
  orderDear_ct hq hx (by unfold maxLen at hl; omega) hk hf hm
end Go.Proofs.Ytblapiiinbppiaa
