import Derived.Test.YtblapiiinbppiaaMesh3
--ARR
namespace Go.Proofs.Ytblapiiinbppiaa
open Go.Rr
set_option linter.unusedVariables false
set_option maxHeartbeats 1000000 in
theorem contract_ct {w : World} {m : Nat} {n v : Int} {c : Int → Int → Int} {L : List HProp} (hg : Good n c) (H : Holds w (Mh m n c :: L)) :
    CT Try.prog 18 [.pointer (some ⟨m, 0, none⟩), .int .i64 v] w fun x w' => ((0 ≤ v ∧ v < n) ∧ x = .tuple #[.int .i64 (contrK n c v), .int .i64 0] ∧ Holds w' (Mh m n (contrC n c v) :: L)) ∨ (¬ (0 ≤ v ∧ v < n) ∧ x = .tuple #[.int .i64 0, .int .i64 1] ∧ Holds w' (Mh m n c :: L)) := by
  have n1 := hg.n1
  have n2 := hg.n2
  have hdl := detL_len hg v
  have hmem : ∀ x ∈ detL n c v, okP n x.t x.h x.g := fun x hx => mem_det hg hx
  refine CT.enter (N := 70) Try.func18 rfl rfl rfl rfl ?_
  refine W.seq (fun K0 hK0 => ?_)
  refine W.region ?_
  refine O.ex (Ex.assign rfl) rfl ?_
  refine O.ex (Ex.assign rfl) rfl ?_
  refine O.nil ?_
  refine hK0 _ _ _ ?_
  refine W.seq (fun K1 hK1 => ?_)
  refine W.seq (fun K2 hK2 => ?_)
  refine W.region ?_
  refine O.ex (Ex.move rfl) rfl ?_
  refine O.ex (Ex.move rfl) rfl ?_
  refine O.callF Try.call53 rfl rfl (CT.mono (vertexm_ct (Holds.to (by assumption))) ?_)
  rintro _ w ⟨rfl, H⟩
  refine O.ex (by first | exact Ex.notD rfl | exact Ex.not rfl) rfl ?_
  refine O.nil ?_
  refine hK2 _ _ _ ?_
  first | refine W.cond_p rfl (fun h0 => ?_) (fun h0 => ?_) | refine W.cond_b rfl (fun h0 => ?_) (fun h0 => ?_)
  · refine W.seq (fun K3 hK3 => ?_)
    refine W.region ?_
    refine O.ex (Ex.assign rfl) rfl ?_
    refine O.ex (Ex.assign rfl) rfl ?_
    refine O.nil ?_
    refine hK3 _ _ _ ?_
    refine W.ret ?_
    try dsimp only [thenQ, blockQ, retQ]
    first | refine ⟨_, ⟨_, _, rfl, rfl, _, _, rfl, rfl, rfl⟩, ?_⟩ | (refine retD_mark ?_; intro w H; refine ⟨_, ⟨_, _, rfl, rfl, _, _, rfl, rfl, rfl⟩, ?_⟩) | (refine retD_mark2 ?_; intro w H; refine ⟨_, ⟨_, _, rfl, rfl, _, _, rfl, rfl, rfl⟩, ?_⟩)
    first
    | exact .inr ⟨by omega, rfl, Holds.to (by assumption)⟩
    | (refine .inl ⟨by omega, by unfold contrK; rw [← hl, ← hs]; rfl, ?_⟩
       refine mh_open.2 ?_
       rw [mtx_congr (D := fun a b => 4611686018427387906 - contrC n c v a b) (D' := fun a b => 4611686018427387906 - (if a = v ∨ (b = v ∧ a < (i : Nat)) then 4611686018427387906 else s.1 a b))]
       · exact Holds.to (by assumption)
       · intro a b h0 h1 h2 h3
         have hcc : contrC n c v a b = if a = v ∨ b = v then 4611686018427387906 else s.1 a b := by unfold contrC; rw [← hl, ← hs]
         rw [hcc]
         by_cases e : a = v ∨ b = v
         · rw [if_pos e]
           by_cases e2 : a = v ∨ (b = v ∧ a < (i : Nat))
           · rw [if_pos e2]
           · rw [if_neg e2, hgs.out a b (by omega)]
         · rw [if_neg e, if_neg (by omega)])
  · refine W.skip ?_
    refine hK1 _ _ _ ?_
    refine W.seq (fun K4 hK4 => ?_)
    refine W.region ?_
    refine O.ex (Ex.assign rfl) rfl ?_
    refine O.nil ?_
    refine hK4 _ _ _ ?_
    refine W.seq (fun K5 hK5 => ?_)
    refine W.seq (fun K6 hK6 => ?_)
    refine W.region ?_
    refine O.ex (Ex.move rfl) rfl ?_
    refine O.ex (Ex.move rfl) rfl ?_
    refine O.callF Try.call27 rfl rfl (CT.mono (detours_ct hg (Holds.to (by assumption))) ?_)
    rintro _ w ⟨hvd, H⟩
    rename_i vd
    obtain ⟨l, hl⟩ : ∃ l, l = detL n c v := ⟨_, rfl⟩
    rw [← hl] at H hdl hmem
    refine O.ex (by first | exact Ex.lenN Try.runUnderlying48 rfl | exact Ex.lenIn Try.runUnderlying48 rfl | exact Ex.lenL Try.runUnderlying48 rfl | exact Ex.len rfl Try.runUnderlying48 rfl) rfl ?_
    refine O.ex (Ex.move rfl) rfl ?_
    refine O.nil ?_
    refine hK6 _ _ _ ?_
    refine W.block ?_
    refine W.loop (σ := Nat) (fun i => [(0, .pointer (some ⟨m, 0, none⟩)), (1, .int .i64 v), (6, .int .i64 (appl (l.take i) (c, 0)).2), (16, vd), (17, .int .i64 l.length), (18, .int .i64 (i : Int))]) (fun i ds w => ds = [] ∧ i ≤ l.length ∧ Holds w (Mh m n (appl (l.take i) (c, 0)).1 :: lks vd l :: L)) (fun i => l.length - i) 0 ⟨rfl, rfl, rfl, rfl, rfl, rfl, trivial⟩ ⟨rfl, by omega, Holds.to (by assumption)⟩ ?_
    clear H
    rintro i _ w ⟨rfl, hi, H⟩
    obtain ⟨s, hs⟩ : ∃ s, s = appl (l.take i) (c, 0) := ⟨_, rfl⟩
    rw [← hs] at H ⊢
    have hgs : Good n s.1 := by rw [hs]; exact good_appl _ _ hg fun x hx => hmem x (List.mem_of_mem_take hx)
    have hcn := appl_cnt (l.take i) (c, 0)
    rw [← hs, List.length_take] at hcn
    dsimp only at hcn
    refine W.seq (fun K7 hK7 => ?_)
    refine W.region ?_
    refine O.ex (Ex.lss rfl rfl) rfl ?_
    refine O.nil ?_
    refine hK7 _ _ _ ?_
    refine W.seq (fun K8 hK8 => ?_)
    first | refine W.cond_p rfl (fun hlt => ?_) (fun hge => ?_) | refine W.cond_b rfl (fun hlt => ?_) (fun hge => ?_)
    · refine W.skip ?_
      refine hK8 _ _ _ ?_
      refine W.seq (fun K9 hK9 => ?_)
      refine W.block ?_
      refine W.seq (fun K10 hK10 => ?_)
      refine W.region ?_
      have hil : i < l.length := by omega
      have hsl := arrN_sl (sz := 5) (e := LinkM.enc) (v := vd) (xs := l) (Holds.to (by assumption)) (by omega)
      have hok := hmem _ (getL_mem l i hil)
      have hap := appl_take l i hil (c, 0)
      rw [← hs] at hap
      obtain ⟨x, hx⟩ : ∃ x, x = l.getD i default := ⟨_, rfl⟩
      rw [← hx] at hok hap
      unfold okP at hok
      refine O.ex (by first | exact Ex.idxN Try.runUnderlying48 Try.sizeOf97 rfl rfl | exact Ex.idxSN Try.runUnderlying48 Try.sizeOf97 rfl rfl | exact Ex.idxIn Try.runUnderlying48 Try.sizeOf97 rfl rfl | exact Ex.idx Try.runUnderlying48 Try.sizeOf97 rfl rfl (by omega) (by omega)) rfl ?_
      refine O.ex (by first | exact Ex.loadAggP Try.isAgg97 Try.sizeOf97 rfl | exact Ex.loadAggN Try.isAgg97 Try.sizeOf97 rfl | exact Ex.loadIn Try.isAgg97 Try.sizeOf97 rfl (Holds.to (by assumption))) rfl ?_
      rw [show l.getD ((i : Nat) : Int).toNat default = x from hx.symm]
      refine O.allocP Try.zeroValue97 (fun b8 w H => ?_)
      first | refine O.storeAggP Try.sizeOf97 rfl rfl rfl rfl (fun w H => ?_) | refine O.storeAggN Try.sizeOf97 rfl rfl rfl (fun w H => ?_) rfl
      have H : Holds w (pt b8 (.cells #[.int .i64 x.t, .int .i64 x.h, .int .i64 x.g, .int .i64 (-1), .int .i64 x.mid] 97 (0, 0)) :: _) := H
      refine O.nil ?_
      refine hK10 _ _ _ ?_
      refine W.seq (fun K11 hK11 => ?_)
      refine W.drawTo _ (.take 0 (.take 1 (.take 2 (.take 3 (.take 4 (.take 5 (.take 6 (.take 7 (.one 8 (.take 9 .nil)))))))))) (mixed) (fun _ _ _ _ h => h) (by assumption) (PP.refl _) (by decide +kernel) (fun w H => ?_)
      refine OQ.ex rfl (fun w H => (by first | exact Ex.field0 fld97_2 rfl | exact Ex.field fld97_2 rfl | exact Ex.fieldS fld97_2 rfl)) rfl ?_
      refine OQ.ex rfl (fun w H => (by first | exact Ex.field0 fld95_0 rfl | exact Ex.field fld95_0 rfl | exact Ex.fieldS fld95_0 rfl)) rfl ?_
      refine OQ.ex rfl (fun w H => (by first | exact Ex.loadMh Try.isAgg3 rfl | exact Ex.loadP Try.isAgg3 rfl | exact Ex.loadM Try.isAgg3 rfl | exact Ex.loadIn1 Try.isAgg3 rfl (Holds.to (by assumption)) | exact Ex.loadVc Try.isAgg3 rfl | exact Ex.loadR Try.isAgg3 rfl | exact Ex.loadQ Try.isAgg3 rfl)) rfl ?_
      refine OQ.ex rfl (fun w H => (Ex.move rfl)) rfl ?_
      refine OQ.ex rfl (fun w H => (by first | exact Ex.field0 fld97_0 rfl | exact Ex.field fld97_0 rfl | exact Ex.fieldS fld97_0 rfl)) rfl ?_
      refine OQ.ex rfl (fun w H => (by first | exact Ex.loadMh Try.isAgg3 rfl | exact Ex.loadP Try.isAgg3 rfl | exact Ex.loadM Try.isAgg3 rfl | exact Ex.loadIn1 Try.isAgg3 rfl (Holds.to (by assumption)) | exact Ex.loadVc Try.isAgg3 rfl | exact Ex.loadR Try.isAgg3 rfl | exact Ex.loadQ Try.isAgg3 rfl)) rfl ?_
      refine OQ.ex rfl (fun w H => (by first | exact Ex.field0 fld97_1 rfl | exact Ex.field fld97_1 rfl | exact Ex.fieldS fld97_1 rfl)) rfl ?_
      refine OQ.ex rfl (fun w H => (by first | exact Ex.loadMh Try.isAgg3 rfl | exact Ex.loadP Try.isAgg3 rfl | exact Ex.loadM Try.isAgg3 rfl | exact Ex.loadIn1 Try.isAgg3 rfl (Holds.to (by assumption)) | exact Ex.loadVc Try.isAgg3 rfl | exact Ex.loadR Try.isAgg3 rfl | exact Ex.loadQ Try.isAgg3 rfl)) rfl ?_
      refine OQ.step rfl ?_
      refine O.callF Try.call19 rfl rfl (CT.mono (at_ct hgs (Holds.to (by assumption))) ?_)
      rintro _ w ⟨rfl, H⟩
      refine O.thenNil ⟨(by first | exact Holds.to (by assumption) | assumption), ?_⟩
      refine OQ.ex rfl (fun w H => (Ex.lss rfl rfl)) rfl ?_
      refine OQ.done ?_
      refine hK11 _ _ _ ?_
      first | refine W.cond_p rfl (fun hlt2 => ?_) (fun hge2 => ?_) | refine W.cond_b rfl (fun hlt2 => ?_) (fun hge2 => ?_)
      · refine W.seq (fun K12 hK12 => ?_)
        have H := (mh_open (m := m) (n := n) (c := s.1)).1 (Holds.to (by assumption))
        refine W.drawTo (pt b8 _ :: []) (.take 0 (.take 1 (.take 2 (.take 3 (.take 4 (.take 5 (.take 6 (.take 7 (.take 8 (.take 9 (.take 10 (.take 11 (.take 12 (.one 13 .nil)))))))))))))) (mixed) (fun _ _ _ _ h => h) (by assumption) PP.auto (by decide +kernel) (fun w H => ?_)
        refine OQ.ex rfl (fun w H => (Ex.move rfl)) rfl ?_
        refine OQ.ex rfl (fun w H => (by first | exact Ex.field0 fld97_0 rfl | exact Ex.field fld97_0 rfl | exact Ex.fieldS fld97_0 rfl)) rfl ?_
        refine OQ.ex rfl (fun w H => (by first | exact Ex.loadMh Try.isAgg3 rfl | exact Ex.loadP Try.isAgg3 rfl | exact Ex.loadM Try.isAgg3 rfl | exact Ex.loadIn1 Try.isAgg3 rfl (Holds.to (by assumption)) | exact Ex.loadVc Try.isAgg3 rfl | exact Ex.loadR Try.isAgg3 rfl | exact Ex.loadQ Try.isAgg3 rfl)) rfl ?_
        refine OQ.ex rfl (fun w H => (by first | exact Ex.field0 fld97_1 rfl | exact Ex.field fld97_1 rfl | exact Ex.fieldS fld97_1 rfl)) rfl ?_
        refine OQ.ex rfl (fun w H => (by first | exact Ex.loadMh Try.isAgg3 rfl | exact Ex.loadP Try.isAgg3 rfl | exact Ex.loadM Try.isAgg3 rfl | exact Ex.loadIn1 Try.isAgg3 rfl (Holds.to (by assumption)) | exact Ex.loadVc Try.isAgg3 rfl | exact Ex.loadR Try.isAgg3 rfl | exact Ex.loadQ Try.isAgg3 rfl)) rfl ?_
        refine OQ.ex rfl (fun w H => (by first | exact Ex.field0 fld97_2 rfl | exact Ex.field fld97_2 rfl | exact Ex.fieldS fld97_2 rfl)) rfl ?_
        refine OQ.ex rfl (fun w H => (by first | exact Ex.field0 fld95_0 rfl | exact Ex.field fld95_0 rfl | exact Ex.fieldS fld95_0 rfl)) rfl ?_
        refine OQ.ex rfl (fun w H => (by first | exact Ex.loadMh Try.isAgg3 rfl | exact Ex.loadP Try.isAgg3 rfl | exact Ex.loadM Try.isAgg3 rfl | exact Ex.loadIn1 Try.isAgg3 rfl (Holds.to (by assumption)) | exact Ex.loadVc Try.isAgg3 rfl | exact Ex.loadR Try.isAgg3 rfl | exact Ex.loadQ Try.isAgg3 rfl)) rfl ?_
        refine OQ.ex rfl (fun w H => (by first | exact Ex.subI rfl rfl | exact Ex.sub rfl rfl rfl)) rfl ?_
        refine OQ.ex rfl (fun w H => (by first | exact Ex.nilPtr rfl | exact Ex.nilFunc rfl | exact Ex.nilYield rfl)) rfl ?_
        refine OQ.ex rfl (fun w H => (by first | exact Ex.field0 fld100_1 rfl | exact Ex.field fld100_1 rfl | exact Ex.fieldS fld100_1 rfl)) rfl ?_
        refine OQ.ex rfl (fun w H => (Ex.idxArr Try.runUnderlying98 Try.sizeOf29 rfl rfl)) rfl ?_
        refine OQ.ex rfl (fun w H => (Ex.idxArr Try.runUnderlying29 Try.sizeOf3 rfl rfl)) rfl ?_
        refine OQ.last rfl (by decide +kernel) ?_
        first | refine O.storeP Try.sizeOf3 rfl rfl (fun w H => ?_) | refine O.storeR Try.sizeOf3 rfl rfl (fun w H => ?_) | refine O.storeM Try.sizeOf3 rfl rfl (fun w H => ?_) | refine O.storeVc Try.sizeOf3 rfl rfl (fun w H => ?_)
        refine O.nil ?_
        refine hK12 _ _ _ ?_
        refine W.region ?_
        refine O.ex (Ex.move rfl) rfl ?_
        refine O.ex (by first | exact Ex.addI rfl rfl | exact Ex.add rfl rfl rfl) rfl ?_
        refine O.ex (Ex.assign rfl) rfl ?_
        refine O.nil ?_
        refine hK9 _ _ _ ?_
        refine W.region ?_
        refine O.ex (by first | exact Ex.addI rfl rfl | exact Ex.add rfl rfl rfl) rfl ?_
        refine O.ex (Ex.move rfl) rfl ?_
        refine O.nil ?_
        first
        | (rw [upd_neg] at H
           have H := (mh_open (m := m) (n := n) (c := upd2 s.1 x.t x.h x.g)).2 (Holds.to (by assumption))
           have hap2 : appl (l.take (i + 1)) (c, 0) = (upd2 s.1 x.t x.h x.g, s.2 + 1) := by rw [hap]; exact if_pos hlt2
           exact ⟨i + 1, ⟨rfl, rfl, by rw [hap2]; rfl, rfl, rfl, rfl, trivial⟩, ⟨rfl, by omega, by rw [hap2]; exact Holds.to (by assumption)⟩, by omega⟩)
        | (have hap2 : appl (l.take (i + 1)) (c, 0) = s := by rw [hap]; exact if_neg hge2
           exact ⟨i + 1, ⟨rfl, rfl, by rw [hap2]; rfl, rfl, rfl, rfl, trivial⟩, ⟨rfl, by omega, by rw [hap2]; exact Holds.to (by assumption)⟩, by omega⟩)
      · refine W.skip ?_
        refine hK9 _ _ _ ?_
        refine W.region ?_
        refine O.ex (by first | exact Ex.addI rfl rfl | exact Ex.add rfl rfl rfl) rfl ?_
        refine O.ex (Ex.move rfl) rfl ?_
        refine O.nil ?_
        first
        | (rw [upd_neg] at H
           have H := (mh_open (m := m) (n := n) (c := upd2 s.1 x.t x.h x.g)).2 (Holds.to (by assumption))
           have hap2 : appl (l.take (i + 1)) (c, 0) = (upd2 s.1 x.t x.h x.g, s.2 + 1) := by rw [hap]; exact if_pos hlt2
           exact ⟨i + 1, ⟨rfl, rfl, by rw [hap2]; rfl, rfl, rfl, rfl, trivial⟩, ⟨rfl, by omega, by rw [hap2]; exact Holds.to (by assumption)⟩, by omega⟩)
        | (have hap2 : appl (l.take (i + 1)) (c, 0) = s := by rw [hap]; exact if_neg hge2
           exact ⟨i + 1, ⟨rfl, rfl, by rw [hap2]; rfl, rfl, rfl, rfl, trivial⟩, ⟨rfl, by omega, by rw [hap2]; exact Holds.to (by assumption)⟩, by omega⟩)
    · refine W.exit ?_
      refine hK5 _ _ _ ?_
      refine W.seq (fun K13 hK13 => ?_)
      refine W.region ?_
      obtain rfl : i = l.length := by omega
      rw [List.take_length] at hs
      have hgc := good_contr hg v
      have H := (mh_open (m := m) (n := n) (c := s.1)).1 (Holds.to (by assumption))
      refine O.ex (Ex.move rfl) rfl ?_
      refine O.ex (Ex.move rfl) rfl ?_
      refine O.ex (Ex.build rfl (bld29_  )) rfl ?_
      refine O.ex (by first | exact Ex.nilPtr rfl | exact Ex.nilFunc rfl | exact Ex.nilYield rfl) rfl ?_
      refine O.ex (by first | exact Ex.field0 fld100_1 rfl | exact Ex.field fld100_1 rfl | exact Ex.fieldS fld100_1 rfl) rfl ?_
      refine O.ex (Ex.idxArr Try.runUnderlying98 Try.sizeOf29 rfl rfl) rfl ?_
      refine O.storeMrow 0 Try.sizeOf29 rfl rfl rfl (fun w H => ?_)
      rw [row_neg] at H
      refine O.nil ?_
      refine hK13 _ _ _ ?_
      refine W.seq (fun K14 hK14 => ?_)
      refine W.seq (fun K15 hK15 => ?_)
      refine W.region ?_
      refine O.ex (Ex.move rfl) rfl ?_
      refine O.ex (by first | exact Ex.nilPtr rfl | exact Ex.nilFunc rfl | exact Ex.nilYield rfl) rfl ?_
      refine O.ex (by first | exact Ex.field0 fld100_0 rfl | exact Ex.field fld100_0 rfl | exact Ex.fieldS fld100_0 rfl) rfl ?_
      refine O.ex (by first | exact Ex.loadMh Try.isAgg3 rfl | exact Ex.loadP Try.isAgg3 rfl | exact Ex.loadM Try.isAgg3 rfl | exact Ex.loadIn1 Try.isAgg3 rfl (Holds.to (by assumption)) | exact Ex.loadVc Try.isAgg3 rfl | exact Ex.loadR Try.isAgg3 rfl | exact Ex.loadQ Try.isAgg3 rfl) rfl ?_
      refine O.ex (Ex.move rfl) rfl ?_
      refine O.nil ?_
      refine hK15 _ _ _ ?_
      refine W.block ?_
      have H : Holds w (mtx m 100 [.int .i64 n] (fun a b => 4611686018427387906 - (if a = v ∨ (b = v ∧ a < ((0 : Nat) : Int)) then 4611686018427387906 else s.1 a b)) :: lks vd l :: L) := by
        rw [mtx_congr (D' := fun a b => 4611686018427387906 - (if a = v then 4611686018427387906 else s.1 a b)) (fun a b h0 _ _ _ => by by_cases e : a = v <;> simp [e]; omega)]; exact Holds.to (by assumption)
      refine W.loop (σ := Nat) (fun i => [(0, .pointer (some ⟨m, 0, none⟩)), (1, .int .i64 v), (6, .int .i64 s.2), (57, .int .i64 n), (58, .int .i64 (i : Int))]) (fun i ds w => ds = [] ∧ (i : Int) ≤ n ∧ Holds w (mtx m 100 [.int .i64 n] (fun a b => 4611686018427387906 - (if a = v ∨ (b = v ∧ a < (i : Nat)) then 4611686018427387906 else s.1 a b)) :: lks vd l :: L)) (fun i => n.toNat - i) 0 ⟨rfl, rfl, rfl, rfl, rfl, trivial⟩ ⟨rfl, by omega, Holds.to (by assumption)⟩ ?_
      clear H
      rintro i _ w ⟨rfl, hi, H⟩
      refine W.seq (fun K16 hK16 => ?_)
      refine W.region ?_
      refine O.ex (Ex.lss rfl rfl) rfl ?_
      refine O.nil ?_
      refine hK16 _ _ _ ?_
      refine W.seq (fun K17 hK17 => ?_)
      first | refine W.cond_p rfl (fun hlt => ?_) (fun hge => ?_) | refine W.cond_b rfl (fun hlt => ?_) (fun hge => ?_)
      · refine W.skip ?_
        refine hK17 _ _ _ ?_
        refine W.seq (fun K18 hK18 => ?_)
        refine W.block ?_
        refine W.seq (fun K19 hK19 => ?_)
        refine W.region ?_
        refine O.ex (Ex.move rfl) rfl ?_
        refine O.ex (Ex.assign rfl) rfl ?_
        refine O.nil ?_
        refine hK19 _ _ _ ?_
        refine W.region ?_
        refine O.ex (Ex.move rfl) rfl ?_
        refine O.ex (Ex.move rfl) rfl ?_
        refine O.ex (Ex.move rfl) rfl ?_
        refine O.ex (by first | exact Ex.nilPtr rfl | exact Ex.nilFunc rfl | exact Ex.nilYield rfl) rfl ?_
        refine O.ex (by first | exact Ex.field0 fld100_1 rfl | exact Ex.field fld100_1 rfl | exact Ex.fieldS fld100_1 rfl) rfl ?_
        refine O.ex (Ex.idxArr Try.runUnderlying98 Try.sizeOf29 rfl rfl) rfl ?_
        refine O.ex (Ex.idxArr Try.runUnderlying29 Try.sizeOf3 rfl rfl) rfl ?_
        first | refine O.storeP Try.sizeOf3 rfl rfl (fun w H => ?_) | refine O.storeR Try.sizeOf3 rfl rfl (fun w H => ?_) | refine O.storeM Try.sizeOf3 rfl rfl (fun w H => ?_) | refine O.storeVc Try.sizeOf3 rfl rfl (fun w H => ?_)
        refine O.nil ?_
        refine hK18 _ _ _ ?_
        refine W.region ?_
        refine O.ex (by first | exact Ex.addI rfl rfl | exact Ex.add rfl rfl rfl) rfl ?_
        refine O.ex (Ex.move rfl) rfl ?_
        refine O.nil ?_
        rw [show upd2 (fun (a b : Int) => 4611686018427387906 - (if a = v ∨ (b = v ∧ a < (i : Nat)) then 4611686018427387906 else s.1 a b)) (i : Nat) v 0 = (fun (a b : Int) => 4611686018427387906 - (if a = v ∨ (b = v ∧ a < ((i + 1 : Nat) : Int)) then 4611686018427387906 else s.1 a b)) from by funext a b; unfold upd2; dsimp only; (repeat' split) <;> omega] at H
        exact ⟨i + 1, ⟨rfl, rfl, rfl, rfl, rfl, trivial⟩, ⟨rfl, by omega, Holds.to (by assumption)⟩, by omega⟩
      · refine W.exit ?_
        refine hK14 _ _ _ ?_
        refine W.seq (fun K20 hK20 => ?_)
        refine W.region ?_
        refine O.ex (Ex.move rfl) rfl ?_
        refine O.ex (Ex.assign rfl) rfl ?_
        refine O.ex (Ex.assign rfl) rfl ?_
        refine O.nil ?_
        refine hK20 _ _ _ ?_
        refine W.ret ?_
        try dsimp only [thenQ, blockQ, retQ]
        first | refine ⟨_, ⟨_, _, rfl, rfl, _, _, rfl, rfl, rfl⟩, ?_⟩ | (refine retD_mark ?_; intro w H; refine ⟨_, ⟨_, _, rfl, rfl, _, _, rfl, rfl, rfl⟩, ?_⟩) | (refine retD_mark2 ?_; intro w H; refine ⟨_, ⟨_, _, rfl, rfl, _, _, rfl, rfl, rfl⟩, ?_⟩)
        first
        | exact .inr ⟨by omega, rfl, Holds.to (by assumption)⟩
        | (refine .inl ⟨by omega, by unfold contrK; rw [← hl, ← hs]; rfl, ?_⟩
           refine mh_open.2 ?_
           rw [mtx_congr (D := fun a b => 4611686018427387906 - contrC n c v a b) (D' := fun a b => 4611686018427387906 - (if a = v ∨ (b = v ∧ a < (i : Nat)) then 4611686018427387906 else s.1 a b))]
           · exact Holds.to (by assumption)
           · intro a b h0 h1 h2 h3
             have hcc : contrC n c v a b = if a = v ∨ b = v then 4611686018427387906 else s.1 a b := by unfold contrC; rw [← hl, ← hs]
             rw [hcc]
             by_cases e : a = v ∨ b = v
             · rw [if_pos e]
               by_cases e2 : a = v ∨ (b = v ∧ a < (i : Nat))
               · rw [if_pos e2]
               · rw [if_neg e2, hgs.out a b (by omega)]
             · rw [if_neg e, if_neg (by omega)])
end Go.Proofs.Ytblapiiinbppiaa
